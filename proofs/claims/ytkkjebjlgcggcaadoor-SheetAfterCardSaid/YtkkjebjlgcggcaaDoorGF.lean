/- Sheets: the walks of slices.IndexFunc at segments, of place and Find. Conditions: at most 2^40 segments. -/
import Derived.Test.YtkkjebjlgcggcaaDoorGE
import Derived.Shelf.Abstract
import Derived.Deep.DeepCutAuto
import Derived.Lib.SliceRun
import Derived.Lib.AppendZeros
namespace Go.Proofs.YtkkjebjlgcggcaaDoor.Seg
open Go.RowKit Go.Maps Go.Proofs.YtkkjebjlgcggcaaDoorW.PrintWords Go.Proofs.YtkkjebjlgcggcaaDoorW.PrintLast Go.Proofs.YtkkjebjlgcggcaaDoorW.PrintMore Go.Proofs.YtkkjebjlgcggcaaDoor.Rope Go.Proofs.YtkkjebjlgcggcaaDoor.PSheetAfter Go.Proofs.YtkkjebjlgcggcaaDoor.Pure
set_option linter.unusedVariables false
set_option linter.unusedSimpArgs false
/-- What is asked of a predicate on the row's segments. -/
abbrev PredQ (xs : List G) (w : World) (g : Nat) (lb : Array Value) (q : G → Bool) : Prop :=
  ∀ (W : World) (x : G) (p A : Option Addr) (c : Nat) (B : Option Addr) (d : Nat), x ∈ xs → Below w.heap.size w W → SP W x p A c B d → Calls Tryd.prog g (#[Value.agg (sgC x p A c B d)] ++ lb) W fun e w' => e = .returned (.bool (q x)) ∧ Below W.heap.size W w'
/-- The first index of which q holds, from j on; -1. -/
def idxQ (q : G → Bool) : List G → Int → Int
  | [], _ => -1
  | x :: r, j => if q x then j else idxQ q r (j + 1)
theorem drop_atQ {xs : List G} {j : Nat} {x : G} (h : xs[j]? = some x) : xs.drop j = x :: xs.drop (j + 1) := by
  obtain ⟨hl, e⟩ := List.getElem?_eq_some_iff.1 h
  rw [List.drop_eq_getElem_cons hl, e]
set_option maxHeartbeats 1600000 in
set_option maxRecDepth 100000 in
theorem indexQ (A : Option Addr) (c : Nat) (xss : List (List Value)) (xs : List G) (g : Nat) (lb : Array Value) (q : G → Bool) (w : World) (eg : ∀ args w, (callFunc g args).run Tryd.prog w = .ok (.enter g args) w) (hp : PredQ xs w g lb q) (h : Sh w A c xss xs) (hl : xss.length ≤ 1099511627776) :
    Calls Tryd.prog 56 #[.slice A xss.length c, .func (.func g) #[] lb] w fun e w' => e = .returned (.int .i64 (idxQ q xs 0)) ∧ Below w.heap.size w w' := by
  have HS := Lib.hid h
  have HP := Lib.hid hp
  have LN := Lib.hid h.len
  clear h hp
  go_enter Tryd.func56, Tryd.ntmps56
  go_wp2
  go_loopw [8] (fun s8 wr => ∃ kk : Nat, kk ≤ xss.length ∧ s8 = .int .i64 (kk : Int) ∧ Hid (Below w.heap.size w wr) ∧ Hid (idxQ q xs 0 = idxQ q (xs.drop kk) kk)) (fun s8 _ => xss.length - cntV s8)
  case atStart => exact ⟨0, Nat.zero_le _, rfl, Lib.hid (Below.refl _ w), Lib.hid rfl⟩
  case round =>
    obtain ⟨kk, hkk, rfl, BW, A1⟩ := hrel
    by_cases hlt : kk < xss.length
    · have d1 : decide ((kk : Int) < (xss.length : Int)) = true := by simp; omega
      have b1 : (0 : Int) ≤ (kk : Int) := by omega
      have b2 : (kk : Int) < (xss.length : Int) := by omega
      obtain ⟨cs, hcs⟩ : ∃ cs, xss[kk]? = some cs := ⟨_, List.getElem?_eq_getElem hlt⟩
      obtain ⟨x, hx⟩ : ∃ x, xs[kk]? = some x := ⟨_, List.getElem?_eq_getElem (by rw [LN.out]; exact hlt)⟩
      have SW := Lib.hid (HS.out.below BW.out)
      obtain ⟨p, A1_, c1, B1, d1_, ecs, hsp⟩ := SW.out.sgs.2 kk cs x hcs hx
      subst ecs
      obtain ⟨ad, e0, y0, y1, y2, y3, y4⟩ := at_Q SW.out.row hcs hlt
      subst e0
      have hcall := Lib.hid (HP.out wr x p A1_ c1 B1 d1_ (List.mem_of_getElem? hx) BW.out hsp)
      have D := Lib.hid (drop_atQ hx)
      clear hx hcs hsp SW
      cases hq : q x with
      | true =>
        have Q := Lib.hid hq
        rw [hq] at hcall
        clear hq
        go_wp2_with ((with_reducible refine hcall.out.mono ?_); rintro e w' ⟨rfl, hb'⟩; have HB := Lib.hid hb'; clear hb')
        go_ret
        refine ⟨?_, below_step BW.out HB.out⟩
        rw [A1.out, D.out]
        simp only [idxQ, Q.out, if_true]
        rfl
      | false =>
        have Q := Lib.hid hq
        rw [hq] at hcall
        clear hq
        go_wp2_with ((with_reducible refine hcall.out.mono ?_); rintro e w' ⟨rfl, hb'⟩; have HB := Lib.hid hb'; clear hb')
        go_roundw
        case rel =>
          refine ⟨kk + 1, by omega, by go_num, Lib.hid (below_step BW.out HB.out), Lib.hid ?_⟩
          rw [A1.out, D.out]
          simp only [idxQ, Q.out, Bool.false_eq_true, if_false]
          rfl
        case measure =>
          simp only [cntV]
          omega
    · have d1 : decide ((kk : Int) < (xss.length : Int)) = false := by simp; omega
      go_wp2
      go_ret
      refine ⟨?_, BW.out⟩
      rw [A1.out, List.drop_of_length_le (by rw [LN.out]; omega)]
      rfl
theorem idxQ_plc (xs : List G) (d : Int) : ∀ (e j : Nat), xs.length - j = e → j ≤ xs.length → idxQ (fun x => decide (x.f0 = d)) (xs.drop j) j = plc xs d e j
  | 0, j, he, hj => by
    rw [List.drop_of_length_le (by omega)]
    rfl
  | e + 1, j, he, hj => by
    obtain ⟨x, hx⟩ : ∃ x, xs[j]? = some x := ⟨_, List.getElem?_eq_getElem (by omega)⟩
    rw [drop_atQ hx]
    have ep : plc xs d (e + 1) j = if x.f0 = d then (j : Int) else plc xs d e (j + 1) := by simp only [plc, hx]
    rw [ep]
    simp only [idxQ, decide_eq_true_eq]
    split
    · rfl
    · exact idxQ_plc xs d e (j + 1) (by omega) (by omega)
set_option maxRecDepth 100000 in
set_option maxHeartbeats 1600000 in
theorem place_pred (x : G) (p A : Option Addr) (c : Nat) (B : Option Addr) (d : Nat) (b : Nat) (m : Int) (w : World) (hc : w.heap[b]? = some (.cells #[.int .i64 m] 3 (0, 0))) :
    Calls Tryd.prog 57 #[.agg (sgC x p A c B d), .pointer (some ⟨b, 0, none⟩)] w fun e w' => e = .returned (.bool (decide (x.f0 = m))) ∧ Below w.heap.size w w' := by
  have HC := Lib.hid hc
  clear hc
  go_enter Tryd.func57, Tryd.ntmps57
  go_upto_region 1 with (first | ((with_reducible refine gate_dst (N := 2) rfl ?_); refine box_event ?hg (N := 2) ?hd (cs := sgC x p A c B d) (t := 45) ?hr ?_; (case hd => rfl); (case hg => rfl); (case hr => first | (go_simp; done) | (go_simp; rfl)); intro gX hgX wX hxX hbX; have BX := Lib.hid hbX; have XX := Lib.hid hxX; clear hgX hxX hbX))
  have c1_ := blk_cell (blk_below HC.out BX.out) 0
  have QS := Lib.hid (show Q5 wX gX x p A c B d wX ∧ wX.cell? ⟨b, 0, none⟩ = some (.int .i64 m) from ⟨Q5.of XX.out (Below.refl _ _), c1_⟩)
  clear c1_
  go_region_held3 (fun w' => Q5 wX gX x p A c B d w' ∧ w'.cell? ⟨b, 0, none⟩ = some (.int .i64 m))
    (first | (with_reducible assumption) | (with_reducible exact HS5.out) | exact ⟨QS.out.1.next (by (with_reducible repeat (first | exact Below.refl _ _ | apply pw_below_drewN | apply Below.drew))), pw_cell_below (by (with_reducible repeat (first | exact Below.refl _ _ | apply pw_below_drewN | apply Below.drew))) QS.out.2⟩)
    (first | (go_at_call 32; (with_reducible refine (id_calls x p A c B d _).mono ?_); rintro e w5 ⟨rfl, hb5⟩; have HS5 := Lib.hid (show Q5 wX gX x p A c B d w5 ∧ w5.cell? ⟨b, 0, none⟩ = some (.int .i64 m) from ⟨Q5.next (V := wX) (gX := gX) (x := x) (p := p) (A := A) (c := c) (B := B) (d := d) (And.left (by assumption)) hb5, pw_cell_below hb5 (And.right (by assumption))⟩); clear hb5))
  all_goals
    have B5 := Lib.hid (below_step BX.out (Q5.b HS5.out.1))
    clear HS5 QS XX BX
    go_wp2
    go_ret
    refine ⟨?_, B5.out⟩
    first | rfl | (congr 2; simp)
set_option maxRecDepth 100000 in
set_option maxHeartbeats 1600000 in
theorem place_calls (f : Bool) (A : Option Addr) (c : Nat) (xss : List (List Value)) (xs : List G) (m : Int) (w : World) (h : Sh w A c xss xs) (hl : xss.length ≤ 1099511627776) :
    Calls Tryd.prog 37 #[.agg #[.bool f, .slice A xss.length c], .int .i64 m] w fun e w' => e = .returned (.int .i64 (plc xs m xs.length 0)) ∧ Below w.heap.size w w' := by
  have HS := Lib.hid h
  clear h
  go_enter Tryd.func37, Tryd.ntmps37
  go_wp2_with fail
  have B0 : Hid (Below w.heap.size w ((w.alloc (.cells #[.bool f, .slice A xss.length c] 25)).alloc (.cells #[.int .i64 m] 3))) := Lib.hid (below_alloc (below_alloc (Below.refl _ _) _) _)
  have X1 : Hid (((w.alloc (.cells #[.bool f, .slice A xss.length c] 25)).alloc (.cells #[.int .i64 m] 3)).heap[w.heap.size + 1]? = some (.cells #[.int .i64 m] 3 (0, 0))) := Lib.hid (blk_newS (by simp))
  go_at_call 56
  refine (indexQ A c xss xs 57 #[.pointer (some ⟨w.heap.size + 1, 0, none⟩)] (fun x => decide (x.f0 = m)) _ (Go.Proofs.enters_of Tryd.func57 (by kernel_rfl) rfl) ?hp (HS.out.below B0.out) hl).mono ?_
  case hp =>
    intro W x p A2 c2 B2 d2 hx hb hs
    exact place_pred x p A2 c2 B2 d2 _ m W (blk_below X1.out hb)
  rintro e w1 ⟨rfl, hb1⟩
  have E := idxQ_plc xs m xs.length 0 rfl (by omega)
  rw [List.drop_zero] at E
  have E1 : idxQ (fun x => decide (x.f0 = m)) xs 0 = plc xs m xs.length 0 := E
  rw [E1]
  have B1 := Lib.hid (below_step B0.out hb1)
  clear hb1 B0 X1 E E1
  go_wp2
  go_ret
  exact ⟨rfl, B1.out⟩
end Go.Proofs.YtkkjebjlgcggcaaDoor.Seg
/- Sheets: the walks of Find and Set. Conditions: at most 2^40 segments. -/
namespace Go.Proofs.YtkkjebjlgcggcaaDoor.Seg
open Go.RowKit Go.Maps Go.Proofs.YtkkjebjlgcggcaaDoorW.PrintWords Go.Proofs.YtkkjebjlgcggcaaDoorW.PrintLast Go.Proofs.YtkkjebjlgcggcaaDoorW.PrintMore Go.Proofs.YtkkjebjlgcggcaaDoor.Rope Go.Proofs.YtkkjebjlgcggcaaDoor.PSheetAfter Go.Proofs.YtkkjebjlgcggcaaDoor.Pure
set_option linter.unusedVariables false
set_option linter.unusedSimpArgs false
theorem plc_cases (xs : List G) (d : Int) : ∀ (e j : Nat), xs.length - j = e → j ≤ xs.length → plc xs d e j = -1 ∨ ∃ (kk : Nat) (x : G), plc xs d e j = (kk : Int) ∧ xs[kk]? = some x ∧ x.f0 = d
  | 0, j, he, hj => .inl rfl
  | e + 1, j, he, hj => by
    obtain ⟨x, hx⟩ : ∃ x, xs[j]? = some x := ⟨_, List.getElem?_eq_getElem (by omega)⟩
    have ep : plc xs d (e + 1) j = if x.f0 = d then (j : Int) else plc xs d e (j + 1) := by simp only [plc, hx]
    rw [ep]
    by_cases h : x.f0 = d
    · exact .inr ⟨j, x, by rw [if_pos h], hx, h⟩
    · rw [if_neg h]
      exact plc_cases xs d e (j + 1) (by omega) (by omega)
def RetF0 (w : World) (e : Ending) (w' : World) : Prop := e = .returned (.tuple #[.agg zC, .bool false]) ∧ Below w.heap.size w w'
set_option maxRecDepth 1000000 in
set_option maxHeartbeats 4000000 in
theorem find_miss (f : Bool) (A : Option Addr) (c : Nat) (xss : List (List Value)) (xs : List G) (m : Int) (w : World) (h : Sh w A c xss xs) (hl : xss.length ≤ 1099511627776) (hm : plc xs m xs.length 0 = -1) :
    Calls Tryd.prog 17 #[.agg #[.bool f, .slice A xss.length c], .int .i64 m] w (RetF0 w) := by
  have HS := Lib.hid h
  have PL := Lib.hid hm
  clear h hm
  go_enter Tryd.func17, Tryd.ntmps17
  go_upto_region 1 with (first | ((with_reducible refine gate_dst (N := 2) rfl ?_); refine box_event ?hg (N := 2) ?hd (cs := #[.bool f, .slice A xss.length c]) (t := 25) ?hr ?_; (case hd => rfl); (case hg => rfl); (case hr => first | (go_simp; done) | (go_simp; rfl)); intro gX hgX wX hxX hbX; have BX := Lib.hid hbX; have XX := Lib.hid hxX; clear hgX hxX hbX) | ((with_reducible refine gate_dst (N := 4) rfl ?_); refine box_event ?hg (N := 4) ?hd (cs := #[.int .i64 0, .int .i64 0, .pointer none, .slice none 0 0, .slice none 0 0]) (t := 45) ?hr ?_; (case hd => rfl); (case hg => rfl); (case hr => first | (go_simp; done) | (go_simp; rfl)); intro gR hgR wR hxR hbR; have XR := Lib.hid hxR; have BR := Lib.hid hbR; have GR_ := Lib.hid (show w.heap.size ≤ gR by rw [hgR]; exact BX.out.size); clear hgR hxR hbR))
  have b0 := (blk_cell (blk_below XX.out BR.out) 0).trans rfl
  have b1 := (blk_cell (blk_below XX.out BR.out) 1).trans rfl
  go_wp2_with fail
  (go_at_call 37; refine (place_calls f A c xss xs m _ (HS.out.below (below_step BX.out BR.out)) hl).mono ?_; rw [PL.out]; rintro e w5 ⟨rfl, hb5⟩)
  have hR5 := blk_below XR.out hb5
  have B5 := Lib.hid (below_step (below_step BX.out BR.out) hb5)
  have X5 := Lib.hid hR5
  have q0 := (blk_cell hR5 0).trans rfl
  have z0 := blk_frozen hR5 0
  have q1 := (blk_cell hR5 1).trans rfl
  have z1 := blk_frozen hR5 1
  have q2 := (blk_cell hR5 2).trans rfl
  have z2 := blk_frozen hR5 2
  have q3 := (blk_cell hR5 3).trans rfl
  have z3 := blk_frozen hR5 3
  have q4 := (blk_cell hR5 4).trans rfl
  have z4 := blk_frozen hR5 4
  clear hb5 hR5 XX XR BX BR b0 b1
  go_wp2
  refine bodyPost_ret (results_ct rfl _ _ gR 45 zC (0, 0) _ rfl (by simpa using blk_set (blk_set (blk_set (blk_set (blk_set X5.out 0 (.int .i64 0)) 1 (.int .i64 0)) 2 (.pointer none)) 3 (.slice none 0 0)) 4 (.slice none 0 0)) Tryd.underlying45 rfl (by kernel_rfl)) rfl ?_
  exact ⟨rfl, below_set (below_set (below_set (below_set (below_set B5.out GR_.out) GR_.out) GR_.out) GR_.out) GR_.out⟩
set_option maxRecDepth 1000000 in
set_option maxHeartbeats 4000000 in
theorem find_hit (f : Bool) (A : Option Addr) (c : Nat) (xss : List (List Value)) (xs : List G) (m : Int) (kk : Nat) (x : G) (w : World) (h : Sh w A c xss xs) (hl : xss.length ≤ 1099511627776) (hm : plc xs m xs.length 0 = (kk : Int)) (hx : xs[kk]? = some x) :
    Calls Tryd.prog 17 #[.agg #[.bool f, .slice A xss.length c], .int .i64 m] w (RetSeg x w) := by
  have HS := Lib.hid h
  have PL := Lib.hid hm
  have LN := Lib.hid h.len
  have hlt : kk < xss.length := by have := (List.getElem?_eq_some_iff.1 hx).1; have := h.len; omega
  have HX := Lib.hid hx
  clear h hm hx
  go_enter Tryd.func17, Tryd.ntmps17
  go_upto_region 1 with (first | ((with_reducible refine gate_dst (N := 2) rfl ?_); refine box_event ?hg (N := 2) ?hd (cs := #[.bool f, .slice A xss.length c]) (t := 25) ?hr ?_; (case hd => rfl); (case hg => rfl); (case hr => first | (go_simp; done) | (go_simp; rfl)); intro gX hgX wX hxX hbX; have BX := Lib.hid hbX; have XX := Lib.hid hxX; clear hgX hxX hbX) | ((with_reducible refine gate_dst (N := 4) rfl ?_); refine box_event ?hg (N := 4) ?hd (cs := #[.int .i64 0, .int .i64 0, .pointer none, .slice none 0 0, .slice none 0 0]) (t := 45) ?hr ?_; (case hd => rfl); (case hg => rfl); (case hr => first | (go_simp; done) | (go_simp; rfl)); intro gR hgR wR hxR hbR; have XR := Lib.hid hxR; have BR := Lib.hid hbR; have GR_ := Lib.hid (show w.heap.size ≤ gR by rw [hgR]; exact BX.out.size); clear hgR hxR hbR))
  have b0 := (blk_cell (blk_below XX.out BR.out) 0).trans rfl
  have b1 := (blk_cell (blk_below XX.out BR.out) 1).trans rfl
  go_wp2_with fail
  (go_at_call 37; refine (place_calls f A c xss xs m _ (HS.out.below (below_step BX.out BR.out)) hl).mono ?_; rw [PL.out]; rintro e w5 ⟨rfl, hb5⟩)
  have hR5 := blk_below XR.out hb5
  have B5 := Lib.hid (below_step (below_step BX.out BR.out) hb5)
  have X5 := Lib.hid hR5
  have S5 := Lib.hid (HS.out.below B5.out)
  replace b1 := pw_cell_below hb5 b1
  clear b0
  have q0 := (blk_cell hR5 0).trans rfl
  have z0 := blk_frozen hR5 0
  have q1 := (blk_cell hR5 1).trans rfl
  have z1 := blk_frozen hR5 1
  have q2 := (blk_cell hR5 2).trans rfl
  have z2 := blk_frozen hR5 2
  have q3 := (blk_cell hR5 3).trans rfl
  have z3 := blk_frozen hR5 3
  have q4 := (blk_cell hR5 4).trans rfl
  have z4 := blk_frozen hR5 4
  clear hb5 hR5 XX XR BX BR HS
  have d1 : decide ((kk : Int) < 0) = false := by simp
  have i1 : (0 : Int) ≤ (kk : Int) := by omega
  have i2 : (kk : Int) < (xss.length : Int) := by omega
  obtain ⟨cs, hcs⟩ : ∃ cs, xss[kk]? = some cs := ⟨_, List.getElem?_eq_getElem hlt⟩
  obtain ⟨p, A1, c1, B1, d1_, ecs, hsp⟩ := S5.out.sgs.2 kk cs x hcs HX.out
  subst ecs
  obtain ⟨ad, e0, y0, y1, y2, y3, y4⟩ := at_Q S5.out.row hcs hlt
  have SP5 := Lib.hid hsp
  subst e0
  clear hcs hsp S5
  go_wp2
  refine bodyPost_ret (results_ct rfl _ _ gR 45 (sgC x p A1 c1 B1 d1_) (0, 0) _ rfl (by simpa using blk_set (blk_set (blk_set (blk_set (blk_set X5.out 0 (.int .i64 x.f0)) 1 (.int .i64 x.f1)) 2 (.pointer p)) 3 (.slice A1 x.f3.length c1)) 4 (.slice B1 x.f4.length d1_)) Tryd.underlying45 rfl (by kernel_rfl)) rfl ?_
  refine ⟨p, A1, c1, B1, d1_, rfl, ?_, below_set (below_set (below_set (below_set (below_set B5.out GR_.out) GR_.out) GR_.out) GR_.out) GR_.out⟩
  have m0 := X5.out
  have m1 := blk_set m0 0 (.int .i64 x.f0)
  have m2 := blk_set m1 1 (.int .i64 x.f1)
  have m3 := blk_set m2 2 (.pointer p)
  have m4 := blk_set m3 3 (.slice A1 x.f3.length c1)
  have s1 := SP5.out.move (set_typeS m0 (by decide) 0 (.int .i64 x.f0)) (set_typeS m0 (by decide) 0 (.int .i64 x.f0)) (set_typeS m0 (by decide) 0 (.int .i64 x.f0))
  have s2 := s1.move (set_typeS m1 (by decide) 1 (.int .i64 x.f1)) (set_typeS m1 (by decide) 1 (.int .i64 x.f1)) (set_typeS m1 (by decide) 1 (.int .i64 x.f1))
  have s3 := s2.move (set_typeS m2 (by decide) 2 (.pointer p)) (set_typeS m2 (by decide) 2 (.pointer p)) (set_typeS m2 (by decide) 2 (.pointer p))
  have s4 := s3.move (set_typeS m3 (by decide) 3 (.slice A1 x.f3.length c1)) (set_typeS m3 (by decide) 3 (.slice A1 x.f3.length c1)) (set_typeS m3 (by decide) 3 (.slice A1 x.f3.length c1))
  exact s4.move (set_typeS m4 (by decide) 4 (.slice B1 x.f4.length d1_)) (set_typeS m4 (by decide) 4 (.slice B1 x.f4.length d1_)) (set_typeS m4 (by decide) 4 (.slice B1 x.f4.length d1_))
end Go.Proofs.YtkkjebjlgcggcaaDoor.Seg
/- Sheets: the walks of New, slices.Grow at nil and slices.Concat at segments. Conditions: at most 2^40 segments in all. -/
namespace Go.Proofs.YtkkjebjlgcggcaaDoor.Seg
open Go.RowKit Go.Proofs.YtkkjebjlgcggcaaDoorPl Go.Maps Go.Proofs.YtkkjebjlgcggcaaDoorW.PrintWords Go.Proofs.YtkkjebjlgcggcaaDoorW.PrintLast Go.Proofs.YtkkjebjlgcggcaaDoorW.PrintMore Go.Proofs.YtkkjebjlgcggcaaDoor.Rope Go.Proofs.YtkkjebjlgcggcaaDoor.PSheetAfter Go.Proofs.YtkkjebjlgcggcaaDoor.Pure
set_option linter.unusedVariables false
set_option linter.unusedSimpArgs false
def nG (a b : Int) : G := ⟨a, b, ⟨#[]⟩, [], []⟩
theorem nG_sp (a b : Int) (w : World) : SP w (nG a b) none none 0 none 0 := ⟨⟨⟨Nat.le_refl _, Nat.le_refl _, Kd.C_nil _ _, Kd.C_nil _ _⟩, fun _ e => (by cases e), fun _ e => (by cases e)⟩, rp_none w⟩
set_option maxRecDepth 100000 in
set_option maxHeartbeats 800000 in
theorem segNew_calls (a b : Int) (w : World) : Calls Tryd.prog 28 #[.int .i64 a, .int .i64 b] w fun e w' => e = .returned (.agg (sgC (nG a b) none none 0 none 0)) ∧ Below w.heap.size w w' := by
  go_enter Tryd.func28, Tryd.ntmps28
  go_wp2
  refine bodyPost_ret (results_cell_row rfl _ _ w.heap.size 45 #[.int .i64 a, .int .i64 b, .pointer none, .slice none 0 0, .slice none 0 0] (0, 0) _ rfl (blk_newS rfl) Tryd.underlying45 rfl (by kernel_rfl)) rfl ?_
  exact ⟨rfl, below_alloc (Below.refl _ _) _⟩
theorem zc_size (z : Array Value) (n : Nat) : (Builtin.zeroCells z n).size = n * z.size := by simp [Builtin.zeroCells]
theorem emptyQ {W : World} {base g cap : Nat} {cs : Array Value} (h : W.heap[g]? = some (.cells cs 45 (0, 0))) (hb : base ≤ g) (hs : cs.size = cap * 5) (hc : cap ≤ 9223372036854775807) : Kd.R kQ 45 W base (fun _ => True) (.slice (some ⟨g, 0, none⟩) 0 cap) [] :=
  ⟨fun _ _ => trivial, [], ⟨rfl, .inr ⟨g, cap, cs, rfl, hb, h, Nat.zero_le _, hc, hs, rfl⟩⟩, Reps.none _ _⟩
set_option maxRecDepth 100000 in
set_option maxHeartbeats 1600000 in
theorem growQ (n : Nat) (w : World) (hn : n ≤ 1099511627776) : Calls Tryd.prog 67 #[.slice none 0 0, .int .i64 (n : Int)] w fun e w' => ∃ v, e = .returned v ∧ Kd.R kQ 45 w' w.heap.size (fun _ => True) v [] ∧ Below w.heap.size w w' := by
  have d1 : decide ((n : Int) < 0) = false := by simp
  rcases Nat.eq_zero_or_pos n with h0 | h0
  · subst h0
    go_enter Tryd.func67, Tryd.ntmps67
    go_wp2
    go_ret
    exact ⟨_, rfl, Kd.R_nil _ _ _ _ _, Below.refl _ _⟩
  · have d2 : decide ((0 : Int) < (n : Int)) = true := by simp; omega
    obtain ⟨i, hi, hz, hs, hby⟩ : ∃ i, Tryd.prog.info? 45 = some i ∧ i.zero = some (.agg #[.int .i64 0, .int .i64 0, .pointer none, .slice none 0 0, .slice none 0 0]) ∧ i.size = 5 ∧ i.bytes = 72 := by
      obtain ⟨i, h1, h2⟩ := Option.map_eq_some_iff.1 infoC45
      simp only [Prod.mk.injEq] at h2
      exact ⟨i, h1, h2.1, h2.2.1, h2.2.2⟩
    go_enter Tryd.func67, Tryd.ntmps67
    have GC := Lib.hid (grownCap_ge w n 0 45)
    have GM := Lib.hid (grownCap_le_maxLen w n 0 45 (by unfold maxLen; omega))
    have RUN := Lib.hid (fun ty => Lib.run_append_nil_zeros (P := Tryd.prog) w 23 3 ty 45 i _ .i64 .i64 Tryd.underlying23 Tryd.underlying3 hi hz n h0 (by omega) (by omega) (by rw [hby]; omega))
    generalize grownCap w n 0 45 = gc at GC GM RUN
    clear hi hz hs hby
    go_wp2_with (first | ((with_reducible refine gate_builtin (b := .append) (xs := #[.tmp 20, .tmp 21]) rfl ?_); at_builtin; (refine Lib.wpList_append_run _ ?hg (.tmp 20) (.tmp 21) 23 3 ?ho (.slice none 0 0) (.int .i64 (n : Int)) ?hs ?hx _ _ (RUN.out _) ?_); (case hg => rfl); (case ho => rfl); (case hs => rfl); (case hx => rfl)))
    go_ret
    refine ⟨_, rfl, emptyQ (blk_newS rfl) ?_ ?_ ?_, ?_⟩
    · exact Nat.le_refl _
    · have e5 : (#[Value.int .i64 0, .int .i64 0, .pointer none, .slice none 0 0, .slice none 0 0] : Array Value).size = 5 := rfl
      have := GC.out
      simp only [Array.size_append, zc_size, Value.cells]
      rw [e5, ← Nat.add_mul]
      congr 1
      omega
    · have := GM.out
      unfold maxLen at this
      exact this
    · exact below_alloc (Below.drew (Below.refl _ _)) _
abbrev RowS := Option Addr × Nat × List (List Value)
def encS (L : RowS) : Value := .slice L.1 L.2.2.length L.2.1
def sumS (Ls : List RowS) : Nat := (Ls.map (·.2.2.length)).sum
def catS (Ls : List RowS) : List (List Value) := (Ls.map (·.2.2)).flatten
theorem takeS {α : Type} {l : List α} {j : Nat} {x : α} (h : l[j]? = some x) : l.take (j + 1) = l.take j ++ [x] := by
  obtain ⟨hl, e⟩ := List.getElem?_eq_some_iff.1 h
  rw [List.take_succ_eq_append_getElem hl, e]
theorem sumS_snoc (l : List RowS) (x : RowS) : sumS (l ++ [x]) = sumS l + x.2.2.length := by simp [sumS]
theorem catS_snoc (l : List RowS) (x : RowS) : catS (l ++ [x]) = catS l ++ x.2.2 := by simp [catS]
theorem catS_len (l : List RowS) : (catS l).length = sumS l := by simp [catS, sumS, List.length_flatten, Function.comp_def]
theorem sumS_take (l : List RowS) (k : Nat) : sumS (l.take k) ≤ sumS l := by
  conv => rhs; rw [← List.take_append_drop k l]
  unfold sumS
  rw [List.map_append, List.sum_append]
  omega
set_option maxRecDepth 100000 in
set_option maxHeartbeats 3200000 in
theorem concatQ (gp : Nat) (Ls : List RowS) (w : World) (hb : w.heap[gp]? = some (.cells (Ls.map encS).toArray 23 (0, 0))) (hr : ∀ L ∈ Ls, Kd.C kQ w L.1 L.2.2.length L.2.2) (hl : sumS Ls ≤ 1099511627776) (hn : Ls.length ≤ 1000) :
    Calls Tryd.prog 50 #[.slice (some ⟨gp, 0, none⟩) Ls.length Ls.length] w fun e w' => ∃ v, e = .returned v ∧ Kd.R kQ 45 w' w.heap.size (fun _ => True) v (catS Ls) ∧ Below w.heap.size w w' := by
  have HB := Lib.hid hb
  have HR := Lib.hid hr
  have HN := Lib.hid hn
  have HL := Lib.hid hl
  clear hb hr
  go_enter Tryd.func50, Tryd.ntmps50
  go_wp2
  go_loopw [11, 3] (fun s11 s3 wr => ∃ kk : Nat, kk ≤ Ls.length ∧ s11 = .int .i64 (kk : Int) ∧ s3 = .int .i64 (sumS (Ls.take kk) : Nat) ∧ Hid (Below w.heap.size w wr)) (fun s11 _ _ => Ls.length - cntV s11)
  case atStart => exact ⟨0, Nat.zero_le _, rfl, rfl, Lib.hid (Below.refl _ w)⟩
  case round =>
    obtain ⟨kk, hkk, rfl, rfl, BW⟩ := hrel
    by_cases hlt : kk < Ls.length
    · have d1 : decide ((kk : Int) < (Ls.length : Int)) = true := by simp; omega
      have b1 : (0 : Int) ≤ (kk : Int) := by omega
      have b2 : (kk : Int) < (Ls.length : Int) := by omega
      obtain ⟨L, hL⟩ : ∃ L, Ls[kk]? = some L := ⟨_, List.getElem?_eq_getElem hlt⟩
      obtain ⟨A, c, ys⟩ := L
      have y0 : wr.cell? ⟨gp, kk, none⟩ = some (.slice A ys.length c) := by
        rw [blk_cell (blk_below HB.out BW.out)]
        simp [hL, encS]
      have TS := Lib.hid (takeS hL)
      have SS := Lib.hid (show sumS (Ls.take (kk + 1)) = sumS (Ls.take kk) + ys.length by rw [takeS hL, sumS_snoc])
      have M := Lib.hid (Nat.le_trans (sumS_take Ls (kk + 1)) hl)
      have d2 : decide ((sumS (Ls.take kk) : Int) + (ys.length : Int) < 0) = false := by simp; omega
      have W1 : wrap64 ((sumS (Ls.take kk) : Int) + (ys.length : Int)) = ((sumS (Ls.take kk) : Int) + (ys.length : Int)) := wrap_id (by omega) (by have := SS.out; have := M.out; omega)
      clear hL
      go_wp2
      go_roundw
      case rel => exact ⟨kk + 1, by omega, by go_num, by rw [SS.out]; push_cast; go_num, BW⟩
      case measure =>
        simp only [cntV]
        omega
    · have d1 : decide ((kk : Int) < (Ls.length : Int)) = false := by simp; omega
      obtain rfl : kk = Ls.length := by omega
      rw [List.take_length]
      go_wp2_with fail
      (go_at_call 67; refine (growQ (sumS Ls) _ HL.out).mono ?_; rintro e w5 ⟨v5, rfl, hr5, hb5⟩)
      have B5 := Lib.hid (below_step BW.out hb5)
      have R5 := Lib.hid (Kd.R_lower hr5 BW.out.size)
      clear hr5 hb5 BW
      go_wp2
      go_loopw [27, 6] (fun s27 s6 wr => ∃ (kk : Nat) (v : Value), kk ≤ Ls.length ∧ s27 = .int .i64 (kk : Int) ∧ v = s6 ∧ Hid (Below w.heap.size w wr) ∧ Hid (Kd.R kQ 45 wr w.heap.size (fun _ => True) v (catS (Ls.take kk)))) (fun s27 _ _ => Ls.length - cntV s27)
      case atStart => exact ⟨0, _, Nat.zero_le _, rfl, rfl, B5, R5⟩
      case round =>
        obtain ⟨kk, v, hkk, rfl, ev, BW, RW⟩ := hrel
        subst ev
        by_cases hlt : kk < Ls.length
        · have d1 : decide ((kk : Int) < (Ls.length : Int)) = true := by simp; omega
          have b1 : (0 : Int) ≤ (kk : Int) := by omega
          have b2 : (kk : Int) < (Ls.length : Int) := by omega
          obtain ⟨L, hL⟩ : ∃ L, Ls[kk]? = some L := ⟨_, List.getElem?_eq_getElem hlt⟩
          have hrL := HR.out L (List.mem_of_getElem? hL)
          obtain ⟨A, c, ys⟩ := L
          have y0 : wr.cell? ⟨gp, kk, none⟩ = some (.slice A ys.length c) := by
            rw [blk_cell (blk_below HB.out BW.out)]
            simp [hL, encS]
          have CY := Lib.hid (show Kd.C kQ wr A ys.length ys from Kd.C_below hrL BW.out)
          have TS := Lib.hid (show catS (Ls.take (kk + 1)) = catS (Ls.take kk) ++ ys by rw [takeS hL, catS_snoc])
          have SS := Lib.hid (show sumS (Ls.take (kk + 1)) = sumS (Ls.take kk) + ys.length by rw [takeS hL, sumS_snoc])
          have M := Lib.hid (Nat.le_trans (sumS_take Ls (kk + 1)) hl)
          have LB := Lib.hid (show ((catS (Ls.take kk)).length + ys.length) * 72 ≤ 140737488355328 by rw [catS_len]; have := SS.out; have := M.out; omega)
          clear hL hrL
          go_wp2_with (first
            | ((with_reducible refine gate_dst (N := 33) rfl ?_)
               refine Kd.R_append_rows kQ w.heap.size ?hg (.tmp 31) (.tmp 32) 23 45 (.agg #[.int .i64 0, .int .i64 0, .pointer none, .slice none 0 0, .slice none 0 0]) 72 rfl Tryd.underlying23 infoC45 rfl (by decide) (by decide) v (catS (Ls.take kk)) ys A ys.length c (fun _ => True) (fun k => some k ≠ v.ownBlock) rfl rfl RW.out CY.out (fun x cs h => h) (fun _ h => ⟨trivial, h⟩) (fun _ _ => trivial) BW.out (BW.out.size) LB.out ?_
               (case hg => rfl)
               intro v2 w2 HO HB hg hat; have HO2 := Lib.hid HO; have HB2 := Lib.hid HB; clear HO HB hg hat))
          go_roundw
          case rel => exact ⟨kk + 1, _, by omega, by go_num, rfl, HB2, Lib.hid (by rw [TS.out]; exact HO2.out)⟩
          case measure =>
            simp only [cntV]
            omega
        · have d1 : decide ((kk : Int) < (Ls.length : Int)) = false := by simp; omega
          obtain rfl : kk = Ls.length := by omega
          rw [List.take_length] at RW
          go_wp2
          go_ret
          exact ⟨_, rfl, RW.out, BW.out⟩
end Go.Proofs.YtkkjebjlgcggcaaDoor.Seg
/- Sheets: the walk of After. Conditions: at most 2^40 segments in all. -/
namespace Go.Proofs.YtkkjebjlgcggcaaDoor.Seg
open Go.RowKit Go.Proofs.YtkkjebjlgcggcaaDoorPl Go.Maps Go.Proofs.YtkkjebjlgcggcaaDoorW.PrintWords Go.Proofs.YtkkjebjlgcggcaaDoorW.PrintLast Go.Proofs.YtkkjebjlgcggcaaDoorW.PrintMore Go.Proofs.YtkkjebjlgcggcaaDoor.Rope Go.Proofs.YtkkjebjlgcggcaaDoor.PSheetAfter Go.Proofs.YtkkjebjlgcggcaaDoor.Pure
set_option linter.unusedVariables false
set_option linter.unusedSimpArgs false
/-- A sheet comes back, and a word. -/
def RetAf (f b : Bool) (ys : List G) (w : World) (e : Ending) (w' : World) : Prop := ∃ A c yss, e = .returned (.tuple #[.agg #[.bool f, .slice A yss.length c], .bool b]) ∧ Sh w' A c yss ys ∧ Below w.heap.size w w'
abbrev QAf (V : World) (g : Nat) (f : Bool) (A : Option Addr) (n c : Nat) (w' : World) : Prop := w'.cell? ⟨g, 0, none⟩ = some (.bool f) ∧ w'.cell? ⟨g, 1, none⟩ = some (.slice A n c) ∧ Below V.heap.size V w'
section
variable {V W W' : World} {g : Nat} {f : Bool} {A : Option Addr} {n c : Nat}
theorem QAf.b (h : QAf V g f A n c W) : Below V.heap.size V W := h.2.2
theorem QAf.next (h : QAf V g f A n c W) (hb : Below W.heap.size W W') : QAf V g f A n c W' := ⟨pw_cell_below hb h.1, pw_cell_below hb h.2.1, below_step h.2.2 hb⟩
end
theorem rows3 {w : World} {A1 A2 A3 : Option Addr} {c1 c2 c3 : Nat} {us ys vs : List (List Value)} (h1 : Kd.C kQ w A1 us.length us) (h2 : Kd.C kQ w A2 ys.length ys) (h3 : Kd.C kQ w A3 vs.length vs) : ∀ L ∈ ([(A1, c1, us), (A2, c2, ys), (A3, c3, vs)] : List RowS), Kd.C kQ w L.1 L.2.2.length L.2.2 := fun L hL => by
  rcases List.mem_cons.1 hL with rfl | hL
  · exact h1
  · rcases List.mem_cons.1 hL with rfl | hL
    · exact h2
    · rw [List.mem_singleton.1 hL]; exact h3
theorem Sgs.append {w : World} {aa bs : List (List Value)} {xs ys : List G} (h : Sgs w aa xs) (h2 : Sgs w bs ys) : Sgs w (aa ++ bs) (xs ++ ys) := by
  refine ⟨by rw [List.length_append, List.length_append, h.1, h2.1], fun j cs x h3 h4 => ?_⟩
  rcases Nat.lt_or_ge j aa.length with hj | hj
  · rw [List.getElem?_append_left hj] at h3
    rw [List.getElem?_append_left (by rw [h.1]; exact hj)] at h4
    exact h.2 j cs x h3 h4
  · rw [List.getElem?_append_right hj] at h3
    rw [List.getElem?_append_right (by rw [h.1]; exact hj), h.1] at h4
    exact h2.2 _ cs x h3 h4
theorem Sgs.take {w : World} {aa : List (List Value)} {xs : List G} (h : Sgs w aa xs) (k : Nat) : Sgs w (aa.take k) (xs.take k) := by
  refine ⟨by rw [List.length_take, List.length_take, h.1], fun j cs x h3 h4 => ?_⟩
  rw [List.getElem?_take] at h3 h4
  split at h3
  · rename_i hj
    rw [if_pos hj] at h4
    exact h.2 j cs x h3 h4
  · cases h3
theorem Sgs.drop {w : World} {aa : List (List Value)} {xs : List G} (h : Sgs w aa xs) (k : Nat) : Sgs w (aa.drop k) (xs.drop k) := by
  refine ⟨by rw [List.length_drop, List.length_drop, h.1], fun j cs x h3 h4 => ?_⟩
  rw [List.getElem?_drop] at h3 h4
  exact h.2 _ cs x h3 h4
set_option maxRecDepth 1000000 in
set_option maxHeartbeats 4000000 in
theorem after_miss (f : Bool) (A : Option Addr) (c : Nat) (xss : List (List Value)) (xs : List G) (id : Int) (A2 : Option Addr) (n2 c2 : Nat) (w : World) (h : Sh w A c xss xs) (hl : xss.length ≤ 1099511627776) (hm : plc xs id xs.length 0 = -1) :
    Calls Tryd.prog 27 #[.agg #[.bool f, .slice A xss.length c], .int .i64 id, .slice A2 n2 c2] w (RetAf f false xs w) := by
  have HS := Lib.hid h
  have PL := Lib.hid hm
  clear h hm
  go_enter Tryd.func27, Tryd.ntmps27
  go_upto_region 1 with (first | ((with_reducible refine gate_dst (N := 3) rfl ?_); refine box_event ?hg (N := 3) ?hd (cs := #[.bool f, .slice A xss.length c]) (t := 25) ?hr ?_; (case hd => rfl); (case hg => rfl); (case hr => first | (go_simp; done) | (go_simp; rfl)); intro gX hgX wX hxX hbX; have BX := Lib.hid hbX; have XX := Lib.hid hxX; have GXH := Lib.hid (show w.heap.size ≤ gX by rw [hgX]; exact Nat.le_refl _); clear hgX hxX hbX) | ((with_reducible refine gate_dst (N := 6) rfl ?_); refine box_event ?hg (N := 6) ?hd (cs := #[.bool false, .slice none 0 0]) (t := 25) ?hr ?_; (case hd => rfl); (case hg => rfl); (case hr => first | (go_simp; done) | (go_simp; rfl)); intro gR hgR wR hxR hbR; have XR := Lib.hid hxR; have NE := Lib.hid (show gX ≠ gR by rw [hgR]; exact Nat.ne_of_lt (blk_lt XX.out)); have BR := Lib.hid (below_step BX.out hbR); have GR_ := Lib.hid (show w.heap.size ≤ gR by rw [hgR]; exact BX.out.size); have XX3 := Lib.hid (blk_below XX.out hbR); clear hgR hxR hbR))
  have b0 := (blk_cell XX3.out 0).trans rfl
  have b1 := (blk_cell XX3.out 1).trans rfl
  go_wp2_with fail
  (go_at_call 37; refine (place_calls f A c xss xs id _ (HS.out.below BR.out) hl).mono ?_; rw [PL.out]; rintro e w8 ⟨rfl, hb8⟩)
  have B8 := Lib.hid (below_step BR.out hb8)
  have X8 := Lib.hid (blk_below XX3.out hb8)
  have Y8 := Lib.hid (blk_below XR.out hb8)
  clear hb8 XX XR XX3 BX BR b0 b1
  have S8 := Lib.hid (HS.out.below B8.out)
  have b0 := (blk_cell X8.out 0).trans rfl
  have b1 := (blk_cell X8.out 1).trans rfl
  have r0 := (blk_cell Y8.out 0).trans rfl
  have r1 := (blk_cell Y8.out 1).trans rfl
  have f0 := blk_frozen Y8.out 0
  have f1 := blk_frozen Y8.out 1
  go_wp2
  refine bodyPost_ret (results_ct rfl _ _ gR 25 #[.bool f, .slice A xss.length c] (0, 0) _ rfl (by simpa using blk_set (blk_set Y8.out 0 (.bool f)) 1 (.slice A xss.length c)) Tryd.underlying25 rfl (by kernel_rfl)) rfl ?_
  exact ⟨A, c, _, rfl, (S8.out.set Y8.out 0 _).set (blk_set Y8.out 0 _) 1 _, below_set (below_set B8.out GR_.out) GR_.out⟩
set_option maxRecDepth 1000000 in
set_option maxHeartbeats 8000000 in
theorem after_hit (f : Bool) (A : Option Addr) (c : Nat) (xss : List (List Value)) (xs : List G) (id : Int) (A2 : Option Addr) (c2 : Nat) (yss : List (List Value)) (ys : List G) (kk : Nat) (x : G) (w : World) (h : Sh w A c xss xs) (hl : xss.length ≤ 1099511627776) (hm : plc xs id xs.length 0 = (kk : Int)) (hx : xs[kk]? = some x) (hy : Kd.C kQ w A2 yss.length yss) (hys : Sgs w yss ys) (hl2 : xss.length + (yss.length + xss.length) ≤ 1099511627776)
    (hwf : ∀ x ∈ xs.take (kk + 1) ++ (ys ++ (xs.drop (kk + 1) ++ [])), (Lit.int .i64 x.f0).wf = true) (zs : List G) (hz : zs = xs.take (kk + 1) ++ (ys ++ (xs.drop (kk + 1) ++ []))) (tw : Bool) (rs : List G) (hw : twB zs = tw ∧ (tw = true → rs = xs) ∧ (tw = false → rs = zs)) :
    Calls Tryd.prog 27 #[.agg #[.bool f, .slice A xss.length c], .int .i64 id, .slice A2 yss.length c2] w (RetAf f (!tw) rs w) := by
  have HS := Lib.hid h
  have PL := Lib.hid hm
  have CYS := Lib.hid hy
  have SYS := Lib.hid hys
  have HWF := Lib.hid hwf
  have HZZ := Lib.hid hz
  have hlt : kk < xss.length := by have := (List.getElem?_eq_some_iff.1 hx).1; have := h.len; omega
  have TW := Lib.hid hw
  clear h hm hx hy hys hwf hz hw
  go_enter Tryd.func27, Tryd.ntmps27
  go_upto_region 1 with (first | ((with_reducible refine gate_dst (N := 3) rfl ?_); refine box_event ?hg (N := 3) ?hd (cs := #[.bool f, .slice A xss.length c]) (t := 25) ?hr ?_; (case hd => rfl); (case hg => rfl); (case hr => first | (go_simp; done) | (go_simp; rfl)); intro gX hgX wX hxX hbX; have BX := Lib.hid hbX; have XX := Lib.hid hxX; have GXH := Lib.hid (show w.heap.size ≤ gX by rw [hgX]; exact Nat.le_refl _); clear hgX hxX hbX) | ((with_reducible refine gate_dst (N := 6) rfl ?_); refine box_event ?hg (N := 6) ?hd (cs := #[.bool false, .slice none 0 0]) (t := 25) ?hr ?_; (case hd => rfl); (case hg => rfl); (case hr => first | (go_simp; done) | (go_simp; rfl)); intro gR hgR wR hxR hbR; have XR := Lib.hid hxR; have NE := Lib.hid (show gX ≠ gR by rw [hgR]; exact Nat.ne_of_lt (blk_lt XX.out)); have BR := Lib.hid (below_step BX.out hbR); have GR_ := Lib.hid (show w.heap.size ≤ gR by rw [hgR]; exact BX.out.size); have XX3 := Lib.hid (blk_below XX.out hbR); clear hgR hxR hbR))
  have b0 := (blk_cell XX3.out 0).trans rfl
  have b1 := (blk_cell XX3.out 1).trans rfl
  go_wp2_with fail
  (go_at_call 37; refine (place_calls f A c xss xs id _ (HS.out.below BR.out) hl).mono ?_; rw [PL.out]; rintro e w8 ⟨rfl, hb8⟩)
  have B8 := Lib.hid (below_step BR.out hb8)
  have X8 := Lib.hid (blk_below XX3.out hb8)
  have Y8 := Lib.hid (blk_below XR.out hb8)
  clear hb8 XX XR XX3 BX BR b0 b1
  have W1 : IntKind.i64.wrap ((kk : Int) + 1) = ((kk : Int) + 1) := by rw [IntKind.wrap_i64]; omega
  have d1 : decide ((kk : Int) < 0) = false := by simp
  obtain ⟨i, hi, hs⟩ : ∃ i, Tryd.prog.info? 45 = some i ∧ i.size = 5 := by
    obtain ⟨i, h1, h2⟩ := Option.map_eq_some_iff.1 infoC45
    simp only [Prod.mk.injEq] at h2
    exact ⟨i, h1, h2.2.1⟩
  have S8 := Lib.hid (HS.out.below B8.out)
  have SY8 := Lib.hid (SYS.out.below B8.out)
  have CY8 := Lib.hid (Kd.C_below CYS.out B8.out)
  obtain ⟨us, hus⟩ : ∃ us, us = xss.take (kk + 1) := ⟨_, rfl⟩
  obtain ⟨vs, hvs⟩ : ∃ vs, vs = xss.drop (kk + 1) := ⟨_, rfl⟩
  obtain ⟨A', c', hA'⟩ : ∃ A' c', (∀ W, (Instr.slice 23 (.slice A xss.length c) (some (.int .i64 ((kk : Int) + 1))) none none).run Tryd.prog W = .ok (.slice A' vs.length c') W) ∧ Kd.C kQ w8 A' vs.length vs := by
    refine ⟨if c = kk + 1 then A else A.map (·.add ((kk + 1) * 5)), c - (kk + 1), fun W => ?_, ?_⟩
    · have := cut_from (P := Tryd.prog) 23 45 .i64 Tryd.underlying23 hi 5 hs A xss.length c ((kk + 1 : Nat) : Int) (by omega) (by omega) W
      rw [Int.toNat_natCast] at this
      rw [hvs, List.length_drop, ← this]
      rfl
    · rw [hvs]
      exact Kd.C_drop S8.out.row (by omega) S8.out.cap
  obtain ⟨hsd, hcd⟩ := hA'
  have hst : ∀ W, (Instr.slice 23 (.slice A xss.length c) none (some (.int .i64 ((kk : Int) + 1))) none).run Tryd.prog W = .ok (.slice A us.length c) W := fun W => by
    have := cut_to (P := Tryd.prog) 23 45 .i64 Tryd.underlying23 hi A xss.length c ((kk + 1 : Nat) : Int) (by omega) (by have := S8.out.cap; omega) S8.out.cap W
    rw [Int.toNat_natCast] at this
    rw [hus, List.length_take, Nat.min_eq_left (by omega), ← this]
    rfl
  have CU := Lib.hid (show Kd.C kQ w8 A us.length us by rw [hus]; exact Kd.C_take S8.out.row (m := kk + 1) (by omega))
  have CD := Lib.hid hcd
  have ZS := Lib.hid (show Sgs w8 (us ++ (yss ++ (vs ++ []))) (xs.take (kk + 1) ++ (ys ++ (xs.drop (kk + 1) ++ []))) by rw [hus, hvs]; exact (S8.out.sgs.take _).append (SY8.out.append ((S8.out.sgs.drop _).append ⟨rfl, fun j cs x h => by simp at h⟩)))
  have LS : Hid (us.length + (yss.length + (vs.length + 0)) ≤ 1099511627776) := Lib.hid (by have e1 : us.length ≤ xss.length := (by rw [hus, List.length_take]; omega); have e2 : vs.length ≤ xss.length := (by rw [hvs, List.length_drop]; omega); omega)
  clear hi hs hus hvs hcd S8 SY8
  have QS := Lib.hid (show QAf w8 gX f A xss.length c w8 from ⟨blk_cell X8.out 0, blk_cell X8.out 1, Below.refl _ _⟩)
  go_upto_region 4 with (fail)
  go_region_held3 (fun w' => QAf w8 gX f A xss.length c w')
    (first | (with_reducible assumption) | (with_reducible exact HS9.out) | (with_reducible exact QAf.next HS9.out (below_alloc (Below.refl _ _) _)) | exact QS.out.next (by (with_reducible repeat (first | exact Below.refl _ _ | apply pw_below_drewN | apply Below.drew | apply below_alloc))))
    (first
      | (go_at_call 50; (refine (concatQ _ [(A, c, us), (A2, c2, yss), (A', c', vs)] _ ?hb ?hr ?hl2 (by (show (3 : Nat) ≤ 1000); decide)).mono ?_); (case hb => first | exact blk_newS rfl | exact blk_drew (blk_newS rfl)); (case hr => exact rows3 (Kd.C_below CU.out (QAf.b (V := w8) (g := gX) (f := f) (A := A) (n := xss.length) (c := c) (by assumption))) (Kd.C_below CY8.out (QAf.b (V := w8) (g := gX) (f := f) (A := A) (n := xss.length) (c := c) (by assumption))) (Kd.C_below CD.out (QAf.b (V := w8) (g := gX) (f := f) (A := A) (n := xss.length) (c := c) (by assumption)))); (case hl2 => exact LS.out); rintro e w9 ⟨v9, rfl, hr9, hb9⟩; have HS9 := Lib.hid (QAf.next (V := w8) (g := gX) (f := f) (A := A) (n := xss.length) (c := c) (by assumption) hb9); have R9 := Lib.hid (Kd.R_lower hr9 (Nat.le_trans B8.out.size (QAf.b (V := w8) (g := gX) (f := f) (A := A) (n := xss.length) (c := c) (by assumption)).size)); clear hr9 hb9))
  all_goals
    have B9 := Lib.hid (below_step B8.out (QAf.b HS9.out))
    have X9 := Lib.hid (blk_below X8.out (QAf.b HS9.out))
    have Y9 := Lib.hid (blk_below Y8.out (QAf.b HS9.out))
    have Z9 := Lib.hid (ZS.out.below (QAf.b HS9.out))
    have S9 := Lib.hid (HS.out.below B9.out)
    rw [show catS ([(A, c, us), (A2, c2, yss), (A', c', vs)] : List RowS) = us ++ (yss ++ (vs ++ [])) from rfl] at R9
    have LZ : (us ++ (yss ++ (vs ++ []))).length ≤ 1099511627776 := by simpa using LS.out
    generalize us ++ (yss ++ (vs ++ [])) = zss at R9 Z9 LZ
    rw [← HZZ.out] at Z9 HWF
    obtain ⟨A9, c9, e9⟩ := Kd.R_slice R9.out
    subst e9
    have C9 := Lib.hid (Kd.R_reads' R9.out)
    clear HS9 QS CU CD ZS X8 Y8 B8 CY8 LS HS
    go_wp2_with fail
    (go_at_call 35; refine (twice_calls A9 c9 zss zs _ C9.out.2.2 Z9.out LZ HWF.out).mono ?_; rw [TW.out.1]; rintro e w10 ⟨rfl, hb10⟩)
    have B10 := Lib.hid (below_step B9.out hb10)
    have X10 := Lib.hid (blk_below X9.out hb10)
    have Y10 := Lib.hid (blk_below Y9.out hb10)
    have Z10 := Lib.hid (Z9.out.below hb10)
    have S10 := Lib.hid (S9.out.below hb10)
    have R10 := Lib.hid (Kd.R_below R9.out hb10)
    clear hb10 X9 Y9 Z9 S9 R9 B9 C9
    cases tw with
    | true =>
      obtain rfl : rs = xs := TW.out.2.1 rfl
      have b0 := (blk_cell X10.out 0).trans rfl
      have b1 := (blk_cell X10.out 1).trans rfl
      have r0 := (blk_cell Y10.out 0).trans rfl
      have r1 := (blk_cell Y10.out 1).trans rfl
      have f0 := blk_frozen Y10.out 0
      have f1 := blk_frozen Y10.out 1
      go_wp2
      refine bodyPost_ret (results_ct rfl _ _ gR 25 #[.bool f, .slice A xss.length c] (0, 0) _ rfl (by simpa using blk_set (blk_set Y10.out 0 (.bool f)) 1 (.slice A xss.length c)) Tryd.underlying25 rfl (by kernel_rfl)) rfl ?_
      exact ⟨A, c, _, rfl, (S10.out.set Y10.out 0 _).set (blk_set Y10.out 0 _) 1 _, below_set (below_set B10.out GR_.out) GR_.out⟩
    | false =>
      obtain rfl : rs = zs := TW.out.2.2 rfl
      have b1 := (blk_cell X10.out 1).trans rfl
      have f1 := blk_frozen X10.out 1
      go_upto_region 8 with (fail)
      refine gen2 (φ := fun W => Code.wp _ _ _ _ W) (P := fun W => Below w.heap.size w W ∧ W.heap[gX]? = some (.cells #[.bool f, .slice A9 zss.length c9] 25 (0, 0)) ∧ W.heap[gR]? = some (.cells #[.bool false, .slice none 0 0] 25 (0, 0)) ∧ Sh W A9 c9 zss rs) ⟨below_set B10.out GXH.out, blk_put X10.out 1 _ rfl, (Below.heap_setCell _ ⟨gX, 1, none⟩ _ gR NE.out.symm).trans Y10.out, (Sh.of R10.out Z10.out).set X10.out 1 _⟩ ?_
      clear b1 f1 X10 Y10 Z10 S10 R10 B10
      rintro U ⟨hbU, hXU, hRU, hsU⟩
      have BU := Lib.hid hbU
      have XU := Lib.hid hXU
      have YU := Lib.hid hRU
      have SU := Lib.hid hsU
      clear hbU hXU hRU hsU
      have b0 := (blk_cell XU.out 0).trans rfl
      have b1 := (blk_cell XU.out 1).trans rfl
      have r0 := (blk_cell YU.out 0).trans rfl
      have r1 := (blk_cell YU.out 1).trans rfl
      have f0 := blk_frozen YU.out 0
      have f1 := blk_frozen YU.out 1
      go_wp2
      refine bodyPost_ret (results_ct rfl _ _ gR 25 #[.bool f, .slice A9 zss.length c9] (0, 0) _ rfl (by simpa using blk_set (blk_set YU.out 0 (.bool f)) 1 (.slice A9 zss.length c9)) Tryd.underlying25 rfl (by kernel_rfl)) rfl ?_
      exact ⟨A9, c9, _, rfl, (SU.out.set YU.out 0 _).set (blk_set YU.out 0 _) 1 _, below_set (below_set BU.out GR_.out) GR_.out⟩

end Go.Proofs.YtkkjebjlgcggcaaDoor.Seg
/- What the document's After answers, in plain Lean; small laws for the walk of SheetAfter. Conditions: lists of at most 1000 segments. -/
namespace Go.Proofs.YtkkjebjlgcggcaaDoor.Seg
open Go.RowKit Go.Proofs.YtkkjebjlgcggcaaDoorPl Go.Maps Go.Proofs.YtkkjebjlgcggcaaDoorW.PrintWords Go.Proofs.YtkkjebjlgcggcaaDoorW.PrintLast Go.Proofs.YtkkjebjlgcggcaaDoorW.PrintMore Go.Proofs.YtkkjebjlgcggcaaDoor.Rope Go.Proofs.YtkkjebjlgcggcaaDoor.PSheetAfter Go.Proofs.YtkkjebjlgcggcaaDoor.Pure
set_option linter.unusedVariables false
set_option linter.unusedSimpArgs false
theorem C_cells {α : Type} {d : Kd α} {w w1 : World} {A : Option Addr} {n : Nat} {xs : List α} (hK : ∀ x cs, d.K w x cs → d.K w1 x cs) (h : Kd.C d w A n xs) (hm : ∀ a v, w.cell? a = some v → w1.cell? a = some v) : Kd.C d w1 A n xs := by
  refine ⟨h.1, h.2.1, fun hn => ?_⟩
  obtain ⟨ad, e, hc⟩ := h.2.2 hn
  refine ⟨ad, e, fun j p hj => ?_⟩
  obtain ⟨cs, hl, hk, hcell⟩ := hc j p hj
  exact ⟨cs, hl, hK _ _ hk, fun i u hu => hm _ _ (hcell i u hu)⟩
theorem cell_move {w w1 : World} (h : ∀ k, k < w.heap.size → w1.heap[k]? = w.heap[k]?) (a : Addr) (v : Value) (hc : w.cell? a = some v) : w1.cell? a = some v := by
  rcases Nat.lt_or_ge a.block w.heap.size with h1 | h1
  · rw [← hc]
    unfold World.cell?
    rw [h _ h1]
  · unfold World.cell? at hc
    rw [Array.getElem?_eq_none h1] at hc
    simp at hc
theorem V_of {w : World} {base : Nat} {A : Option Addr} {c : Nat} {xs : List G} (h : Kd.C kG w A xs.length xs) (hc : xs.length ≤ c) : Kd.V kG 40 w base (fun _ => True) (.slice A xs.length c) xs := by
  refine ⟨A, c, rfl, hc, fun W' hW => ?_⟩
  have hm := cell_move (w := w) (w1 := W') (fun k hk => hW k trivial hk)
  refine C_cells (fun x cs hK => ?_) h hm
  obtain ⟨A3, c3, A4, c4, rfl, l3, g3, l4, g4⟩ := k40_open hK
  exact k40_mk W' x l3 (C_cells (fun x cs hK => by obtain rfl := k83_open hK; exact k83_mk W' x) g3 hm) l4 (C_cells (fun x cs hK => by obtain rfl := k86_open hK; exact k86_mk W' x) g4 hm)
theorem shLoad_good (f : Bool) (A : Option Addr) (c : Nat) (xs : List G) (w : World) (hT : Tabs w) (hr : Kd.C kG w A xs.length xs) (hz : ∀ x ∈ xs, Sz x) (hl : xs.length ≤ 1099511627776) (hwf : ∀ x ∈ xs, (Lit.int .i64 x.f0).wf = true) (hok : okS xs) :
    Calls Tryd.prog 7 #[.bool f, .slice A xs.length c] w fun e w' => ∃ A c xss, e = .returned (.tuple #[.agg #[.bool f, .slice A xss.length c], .bool true]) ∧ Sh w' A c xss xs ∧ Below w.heap.size w w' := by
  refine (shLoad_calls f A c xs w hT hr hz hl hwf).mono ?_
  rintro e w' (⟨_, A', c', xss, rfl, hs, hb⟩ | ⟨hn, _⟩)
  · exact ⟨A', c', xss, by rw [hs.len], hs, hb⟩
  · exact absurd hok hn
theorem two_calls (w : World) : Calls Tryd.prog 8 #[] w fun e w' => ∃ A c, e = .returned (.slice A [t1, t2].length c) ∧ Kd.C kG w' A [t1, t2].length [t1, t2] ∧ Below w.heap.size w w' := by
  refine (chancellaw06_two.calls [t1, t2] w rfl).mono ?_
  rintro e w' ⟨v, rfl, hs, hb⟩
  obtain ⟨A, c, e, hc, hC⟩ := Kd.R_reads (Kd.S_R hs)
  subst e
  exact ⟨A, c, rfl, hC, hb⟩
theorem two_wf : ∀ x ∈ [t1, t2], (Lit.int .i64 x.f0).wf = true := fun x hx => by
  rcases List.mem_cons.1 hx with rfl | hx
  · rfl
  · rw [List.mem_singleton.1 hx]; rfl
/-- A row of ints, just built. -/
theorem C_ints {W : World} {g : Nat} {l : List Int} (hl : l.length ≤ 9223372036854775807) (h : W.heap[g]? = some (.cells (l.map (Value.int .i64)).toArray 3 (0, 0))) : Kd.C (Kd.int .i64) W (some ⟨g, 0, none⟩) l.length l := by
  refine ⟨rfl, hl, fun _ => ⟨_, rfl, fun j p hj => ?_⟩⟩
  refine ⟨[.int .i64 p], rfl, rfl, fun i u hu => ?_⟩
  rw [add_plain]
  have e : (0 + j * (Kd.int .i64).sz + i) = j + i := by
    show 0 + j * 1 + i = j + i
    omega
  cases i with
  | succ i => simp at hu
  | zero =>
    simp only [List.getElem?_cons_zero, Option.some.injEq] at hu
    subst hu
    rw [blk_cell h]
    have e2 : j * (Kd.int .i64).sz = j := Nat.mul_one j
    simp only [Nat.zero_add, Nat.add_zero, e2]
    simp [hj]
/-- A row of one segment, just built. -/
theorem C_oneQ {W : World} {g : Nat} {v0 v1 v2 v3 v4 : Value} (h1 : ∀ u ∈ [v0, v1, v2, v3, v4], u.oneCell' = true) (h : W.heap[g]? = some (.cells #[v0, v1, v2, v3, v4] 45 (0, 0))) : Kd.C kQ W (some ⟨g, 0, none⟩) [[v0, v1, v2, v3, v4]].length [[v0, v1, v2, v3, v4]] := by
  refine ⟨rfl, by (show (1 : Nat) ≤ 9223372036854775807); decide, fun _ => ⟨_, rfl, fun j p hj => ?_⟩⟩
  cases j with
  | succ j => simp at hj
  | zero =>
    simp only [List.getElem?_cons_zero, Option.some.injEq] at hj
    subst hj
    refine ⟨_, rfl, ⟨rfl, rfl, h1⟩, fun i u hu => ?_⟩
    rw [add_plain]
    have e : (0 * kQ.sz + i) = i := by omega
    rw [e, blk_cell h i]
    simpa using hu
theorem plc_none (xs : List G) (d : Int) : ∀ (e j : Nat), xs.length - j = e → j ≤ xs.length → (plc xs d e j = -1 ↔ ∀ x ∈ xs.drop j, x.f0 ≠ d)
  | 0, j, he, hj => by
    rw [List.drop_of_length_le (by omega)]
    simp [plc]
  | e + 1, j, he, hj => by
    obtain ⟨x, hx⟩ : ∃ x, xs[j]? = some x := ⟨_, List.getElem?_eq_getElem (by omega)⟩
    have ep : plc xs d (e + 1) j = if x.f0 = d then (j : Int) else plc xs d e (j + 1) := by simp only [plc, hx]
    rw [ep, drop_atQ hx]
    by_cases h : x.f0 = d
    · rw [if_pos h]
      constructor
      · intro h2; omega
      · intro h2; exact absurd h (h2 x (by simp))
    · rw [if_neg h, plc_none xs d e (j + 1) (by omega) (by omega)]
      constructor
      · intro h2 y hy
        rcases List.mem_cons.1 hy with rfl | hy
        · exact h
        · exact h2 y hy
      · intro h2 y hy
        exact h2 y (by simp [hy])
/-- What the document asks of each that is put in. -/
def good (xs ys : List G) (j : Nat) : Prop := ∀ (i : Nat) y, j ≤ i → ys[i]? = some y → plc xs y.f0 xs.length 0 = -1 ∧ plc ys y.f0 ys.length 0 = (i : Int)
theorem after_l0_good (xs ys : List G) (a : Int) (r : List G × Bool) (hx : xs.length ≤ 1000) (hy : ys.length ≤ 1000) (hend : ∀ k, chancelref06_After.l0 (k + 1) xs ys a (ys.length : Int) = some r) : ∀ (e i : Nat), ys.length - i = e → i ≤ ys.length → good xs ys i → Ev (fun k => chancelref06_After.l0 k xs ys a (i : Int)) r
  | 0, i, he, hi, hg => by
    obtain rfl : i = ys.length := by omega
    exact ev_next (f := fun _ => some r) (fun k => hend k) (Ev.now _)
  | e + 1, i, he, hi, hg => by
    obtain ⟨y, hy'⟩ : ∃ y, ys[i]? = some y := ⟨_, List.getElem?_eq_getElem (by omega)⟩
    have W1 := wrap_succ (i := i) (by omega)
    obtain ⟨g1, g2⟩ := hg i y (Nat.le_refl _) hy'
    have e1 := place_ev xs y.f0 (by omega)
    have e2 := place_ev ys y.f0 (by omega)
    rw [g1] at e1
    rw [g2] at e2
    have ih := after_l0_good xs ys a r hx hy hend e (i + 1) (by omega) (by omega) (fun j z hj hz => hg j z (by omega) hz)
    obtain ⟨K1, h1⟩ := e1
    try dsimp only at h1
    obtain ⟨K2, h2⟩ := e2
    try dsimp only at h2
    obtain ⟨K3, h3⟩ := ih
    try dsimp only at h3
    refine ⟨K1 + K2 + K3 + 1, fun k hk => ?_⟩
    obtain ⟨m, rfl⟩ : ∃ m, k = m + 1 := ⟨k - 1, by omega⟩
    simp only [chancelref06_After.l0, rd_G hy']
    rw [if_pos (by omega), if_pos (by omega), h1 m (by omega), Option.bind_some, if_neg (by omega), h2 m (by omega), Option.bind_some, if_pos rfl, W1, h3 m (by omega)]
open Classical in
theorem after_l0_bad (xs ys : List G) (a : Int) (hx : xs.length ≤ 1000) (hy : ys.length ≤ 1000) : ∀ (e i : Nat), ys.length - i = e → i ≤ ys.length → ¬ good xs ys i → Ev (fun k => chancelref06_After.l0 k xs ys a (i : Int)) (xs, false)
  | 0, i, he, hi, hg => by
    exact absurd (fun j z hj hz => by have := (List.getElem?_eq_some_iff.1 hz).1; omega) hg
  | e + 1, i, he, hi, hg => by
    obtain ⟨y, hy'⟩ : ∃ y, ys[i]? = some y := ⟨_, List.getElem?_eq_getElem (by omega)⟩
    have W1 := wrap_succ (i := i) (by omega)
    obtain ⟨K1, h1⟩ := place_ev xs y.f0 (by omega)
    try dsimp only at h1
    obtain ⟨K2, h2⟩ := place_ev ys y.f0 (by omega)
    try dsimp only at h2
    by_cases c1 : plc xs y.f0 xs.length 0 ≥ 0
    · refine ⟨K1 + 1, fun k hk => ?_⟩
      obtain ⟨m, rfl⟩ : ∃ m, k = m + 1 := ⟨k - 1, by omega⟩
      simp only [chancelref06_After.l0, rd_G hy']
      rw [if_pos (by omega), if_pos (by omega), h1 m (by omega), Option.bind_some, if_pos c1]
    · by_cases c2 : plc ys y.f0 ys.length 0 = (i : Int)
      · have c3 : plc xs y.f0 xs.length 0 = -1 := by
          rcases plc_cases xs y.f0 xs.length 0 rfl (Nat.zero_le _) with h | ⟨kk, z, h, _, _⟩
          · exact h
          · omega
        obtain ⟨K3, h3⟩ := after_l0_bad xs ys a hx hy e (i + 1) (by omega) (by omega) (fun h => hg (fun j z hj hz => by
          rcases Nat.lt_or_ge i j with h4 | h4
          · exact h j z h4 hz
          · obtain rfl : j = i := by omega
            rw [hy'] at hz
            injection hz with hz
            rw [← hz]
            exact ⟨c3, c2⟩))
        try dsimp only at h3
        refine ⟨K1 + K2 + K3 + 1, fun k hk => ?_⟩
        obtain ⟨m, rfl⟩ : ∃ m, k = m + 1 := ⟨k - 1, by omega⟩
        simp only [chancelref06_After.l0, rd_G hy']
        rw [if_pos (by omega), if_pos (by omega), h1 m (by omega), Option.bind_some, if_neg c1, h2 m (by omega), Option.bind_some, if_pos c2, W1, h3 m (by omega)]
      · refine ⟨K1 + K2 + 1, fun k hk => ?_⟩
        obtain ⟨m, rfl⟩ : ∃ m, k = m + 1 := ⟨k - 1, by omega⟩
        simp only [chancelref06_After.l0, rd_G hy']
        rw [if_pos (by omega), if_pos (by omega), h1 m (by omega), Option.bind_some, if_neg c1, h2 m (by omega), Option.bind_some, if_neg c2]
/-- The Ids are all apart, just where the document puts them in. -/
theorem good_iff (xs ys : List G) (hn : (xs.map (·.f0)).Nodup) (k : Nat) : good xs ys 0 ↔ ((xs.take k ++ (ys ++ (xs.drop k ++ [])) : List G).map (·.f0)).Nodup := by
  have hp : ((xs.take k ++ (ys ++ (xs.drop k ++ [])) : List G).map (·.f0)).Perm ((ys ++ xs : List G).map (·.f0)) := by
    rw [List.append_nil]
    have h := List.perm_append_comm_assoc (xs.take k) ys (xs.drop k)
    rw [List.take_append_drop] at h
    exact h.map _
  rw [hp.nodup_iff, List.map_append, List.nodup_append]
  have hmem : ∀ (j : Nat) y, ys[j]? = some y → (plc xs y.f0 xs.length 0 = -1 ↔ y.f0 ∉ xs.map (·.f0)) := fun j y hj => by
    rw [plc_none xs y.f0 xs.length 0 rfl (Nat.zero_le _), List.drop_zero]
    constructor
    · intro h hm
      obtain ⟨z, hz, e⟩ := List.mem_map.1 hm
      exact h z hz e
    · intro h z hz e
      exact h (List.mem_map.2 ⟨z, hz, e⟩)
  constructor
  · intro h
    refine ⟨?_, hn, fun a ha b hb e => ?_⟩
    · have : ∀ j, j ≤ ys.length → ((ys.take j).map (·.f0)).Nodup := by
        intro j
        induction j with
        | zero => intro _; simp
        | succ j ih =>
          intro hj
          obtain ⟨y, hy⟩ : ∃ y, ys[j]? = some y := ⟨_, List.getElem?_eq_getElem (by omega)⟩
          exact nodup_more hy (ih (by omega)) ((plc_iff hy ys.length 0 (by omega) (by omega) (by simp)).1 (h j y (Nat.zero_le _) hy).2)
      have := this ys.length (Nat.le_refl _)
      rwa [List.take_length] at this
    · obtain ⟨y, hy, rfl⟩ := List.mem_map.1 ha
      obtain ⟨j, hj⟩ := List.getElem?_of_mem hy
      have h1 := (hmem j y hj).1 (h j y (Nat.zero_le _) hj).1
      exact h1 (by rw [e]; exact hb)
  · rintro ⟨h1, _, h2⟩ j y _ hj
    refine ⟨(hmem j y hj).2 (fun hm => h2 _ (List.mem_map.2 ⟨y, List.mem_of_getElem? hj, rfl⟩) _ hm rfl), ?_⟩
    exact (plc_iff hj ys.length 0 (by omega) (by omega) (by simp)).2 (fun hm => not_nodup hj hm h1)
/-- What the document answers. -/
theorem refAfter_ev (xs ys : List G) (id : Int) (hx : xs.length ≤ 1000) (hy : ys.length ≤ 1000) (hn : (xs.map (·.f0)).Nodup) :
    (plc xs id xs.length 0 = -1 → Ev (fun k => chancelref06_After.f k xs id ys) (xs, false)) ∧
    (∀ (kk : Nat) x, plc xs id xs.length 0 = (kk : Int) → xs[kk]? = some x → ∀ (tw : Bool) (zs rs : List G), zs = xs.take (kk + 1) ++ (ys ++ (xs.drop (kk + 1) ++ [])) → twB zs = tw ∧ (tw = true → rs = xs) ∧ (tw = false → rs = zs) → Ev (fun k => chancelref06_After.f k xs id ys) (rs, !tw)) := by
  have hb : ∀ a r, plc xs id xs.length 0 = a → Ev (fun k => chancelref06_After.l0 k xs ys a (0 : Nat)) r → Ev (fun k => chancelref06_After.f k xs id ys) r := by
    rintro a r rfl ⟨K2, h2⟩
    obtain ⟨K1, h1⟩ := place_ev xs id (by omega)
    try dsimp only at h1
    refine ⟨K1 + K2, fun k hk => ?_⟩
    unfold chancelref06_After.f
    dsimp only
    rw [h1 k (by omega), Option.bind_some]
    exact h2 k (by omega)
  refine ⟨fun hp => hb _ _ hp ?_, fun kk x hp hx' tw zs rs hz ht => hb _ _ hp ?_⟩
  · by_cases hg : good xs ys 0
    · exact after_l0_good xs ys _ _ hx hy (fun k => by simp only [chancelref06_After.l0]; rw [if_neg (by omega), if_pos (by omega)]) _ 0 rfl (Nat.zero_le _) hg
    · exact after_l0_bad xs ys _ hx hy _ 0 rfl (Nat.zero_le _) hg
  · have hlt := (List.getElem?_eq_some_iff.1 hx').1
    have hgi := good_iff xs ys hn (kk + 1)
    rw [← hz] at hgi
    cases tw with
    | true =>
      obtain rfl := ht.2.1 rfl
      refine after_l0_bad rs ys _ hx hy _ 0 rfl (Nat.zero_le _) (fun hg => ?_)
      have := hgi.1 hg
      have h1 := ht.1
      unfold twB at h1
      simp [this] at h1
    | false =>
      obtain rfl := ht.2.2 rfl
      have hnd : (rs.map (·.f0)).Nodup := by
        have h1 := ht.1
        unfold twB at h1
        simpa using h1
      have W2 : wrap64 ((kk : Int) + 1) = ((kk + 1 : Nat) : Int) := wrap_succ (by omega)
      refine after_l0_good xs ys _ _ hx hy (fun k => ?_) _ 0 rfl (Nat.zero_le _) (hgi.2 hnd)
      simp only [chancelref06_After.l0]
      rw [if_neg (by omega), if_neg (by omega), W2, if_pos (by omega), if_pos (by omega)]
      simp only [Option.bind_some, Int.toNat_natCast, List.nil_append, List.length_nil, Nat.zero_add]
      rw [if_pos (by rw [List.length_take]; omega), if_pos (by rw [List.length_take]; omega), if_pos (by rw [List.length_append, List.length_take, List.length_drop]; omega), hz]
      simp
/-- After, and the document's. -/
theorem after_both (xs ys : List G) (id : Int) (hx : xs.length ≤ 40) (hy : ys.length ≤ 40) (hn : (xs.map (·.f0)).Nodup) (hzx : ∀ x ∈ xs, Sz x) (hzy : ∀ x ∈ ys, Sz x) (hwx : ∀ x ∈ xs, (Lit.int .i64 x.f0).wf = true) (hwy : ∀ x ∈ ys, (Lit.int .i64 x.f0).wf = true) :
    ∃ (b : Bool) (rs : List G), rs.length ≤ 1000 ∧ (∀ x ∈ rs, Sz x) ∧ Ev (fun k => chancelref06_After.f k xs id ys) (rs, b) ∧
      ∀ (f : Bool) (A : Option Addr) (c : Nat) (xss : List (List Value)) (A2 : Option Addr) (c2 : Nat) (yss : List (List Value)) (w : World), Sh w A c xss xs → Kd.C kQ w A2 yss.length yss → Sgs w yss ys → Calls Tryd.prog 27 #[.agg #[.bool f, .slice A xss.length c], .int .i64 id, .slice A2 yss.length c2] w (RetAf f b rs w) := by
  obtain ⟨e1, e2⟩ := refAfter_ev xs ys id (by omega) (by omega) hn
  rcases plc_cases xs id xs.length 0 rfl (Nat.zero_le _) with hp | ⟨kk, x, hp, hx', _⟩
  · exact ⟨false, xs, by omega, hzx, e1 hp, fun f A c xss A2 c2 yss w h hc hs => after_miss f A c xss xs id A2 yss.length c2 w h (by rw [← h.len]; omega) hp⟩
  · have hmem : ∀ (p : G → Prop), (∀ x ∈ xs, p x) → (∀ x ∈ ys, p x) → ∀ x ∈ xs.take (kk + 1) ++ (ys ++ (xs.drop (kk + 1) ++ [])), p x := fun p h1 h2 x hm => by
      simp only [List.append_nil, List.mem_append] at hm
      rcases hm with h | h | h
      · exact h1 x (List.mem_of_mem_take h)
      · exact h2 x h
      · exact h1 x (List.mem_of_mem_drop h)
    have hlen : (xs.take (kk + 1) ++ (ys ++ (xs.drop (kk + 1) ++ []))).length ≤ 1000 := by
      simp only [List.append_nil, List.length_append, List.length_take, List.length_drop]
      omega
    obtain ⟨tw, rs, ht, hr⟩ : ∃ (tw : Bool) (rs : List G), (twB (xs.take (kk + 1) ++ (ys ++ (xs.drop (kk + 1) ++ []))) = tw ∧ (tw = true → rs = xs) ∧ (tw = false → rs = xs.take (kk + 1) ++ (ys ++ (xs.drop (kk + 1) ++ [])))) ∧ (rs.length ≤ 1000 ∧ ∀ x ∈ rs, Sz x) := by
      cases h : twB (xs.take (kk + 1) ++ (ys ++ (xs.drop (kk + 1) ++ []))) with
      | true => exact ⟨true, xs, ⟨rfl, fun _ => rfl, fun h => by cases h⟩, by omega, hzx⟩
      | false => exact ⟨false, _, ⟨rfl, (fun h => by cases h), fun _ => rfl⟩, hlen, hmem _ hzx hzy⟩
    exact ⟨!tw, rs, hr.1, hr.2, e2 kk x hp hx' tw _ rs rfl ht, fun f A c xss A2 c2 yss w h hc hs => after_hit f A c xss xs id A2 c2 yss ys kk x w h (by rw [← h.len]; omega) hp hx' hc hs (by rw [← h.len, ← hs.1]; omega) (hmem _ hwx hwy) _ rfl tw rs ht⟩
end Go.Proofs.YtkkjebjlgcggcaaDoor.Seg
