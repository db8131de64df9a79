/- Sheets: the walks of slices.IndexFunc at segments, of place and Find. Conditions: at most 2^40 segments. -/
import Derived.Test.YtkkjebjlgcggcaaDoorGE
import Derived.Shelf.Abstract
import Derived.Deep.DeepCutAuto
import Derived.Lib.SliceRun
import Derived.BigQuiet
namespace Go.Proofs.YtkkjebjlgcggcaaDoor.Seg
open Go.RowKit Go.Maps Go.Proofs.YtkkjebjlgcggcaaDoorW.PrintWords Go.Proofs.YtkkjebjlgcggcaaDoorW.PrintLast Go.Proofs.YtkkjebjlgcggcaaDoorW.PrintMore Go.Proofs.YtkkjebjlgcggcaaDoor.Rope Go.Proofs.YtkkjebjlgcggcaaDoor.PSheetFinds Go.Proofs.YtkkjebjlgcggcaaDoor.Pure
set_option linter.unusedVariables false
set_option linter.unusedSimpArgs false
/-- What is asked of a predicate on the row's segments. -/
abbrev PredQ (xs : List G) (w : World) (g : Nat) (lb : Array Value) (q : G → Bool) : Prop :=
  ∀ (W : World) (x : G) (p A : Option Addr) (c : Nat) (B : Option Addr) (d : Nat), x ∈ xs → Below w.heap.size w W → SP W x p A c B d → Calls Tryd.prog g (#[Value.agg (sgC x p A c B d)] ++ lb) W fun e w' => e = .returned (.bool (q x)) ∧ Below W.heap.size W w'
/-- The first index of which q holds, from j on; -1. -/
def idxQ (q : G → Bool) : List G → Int → Int
  | [], _ => -1
  | x :: r, j => if q x then j else idxQ q r (j + 1)
theorem drop_atQ {xs : List G} {j : Nat} {x : G} (h : xs[j]? = some x) : xs.drop j = x :: xs.drop (j + 1) := by
  obtain ⟨hl, e⟩ := List.getElem?_eq_some_iff.1 h
  rw [List.drop_eq_getElem_cons hl, e]
set_option maxHeartbeats 1600000 in
set_option maxRecDepth 100000 in
theorem indexQ (A : Option Addr) (c : Nat) (xss : List (List Value)) (xs : List G) (g : Nat) (lb : Array Value) (q : G → Bool) (w : World) (eg : ∀ args w, (callFunc g args).run Tryd.prog w = .ok (.enter g args) w) (hp : PredQ xs w g lb q) (h : Sh w A c xss xs) (hl : xss.length ≤ 1099511627776) :
    Calls Tryd.prog 56 #[.slice A xss.length c, .func (.func g) #[] lb] w fun e w' => e = .returned (.int .i64 (idxQ q xs 0)) ∧ Below w.heap.size w w' := by
  have HS := Lib.hid h
  have HP := Lib.hid hp
  have LN := Lib.hid h.len
  clear h hp
  go_enter Tryd.func56, Tryd.ntmps56
  go_wp2
  go_loopw [8] (fun s8 wr => ∃ kk : Nat, kk ≤ xss.length ∧ s8 = .int .i64 (kk : Int) ∧ Hid (Below w.heap.size w wr) ∧ Hid (idxQ q xs 0 = idxQ q (xs.drop kk) kk)) (fun s8 _ => xss.length - cntV s8)
  case atStart => exact ⟨0, Nat.zero_le _, rfl, Lib.hid (Below.refl _ w), Lib.hid rfl⟩
  case round =>
    obtain ⟨kk, hkk, rfl, BW, A1⟩ := hrel
    by_cases hlt : kk < xss.length
    · have d1 : decide ((kk : Int) < (xss.length : Int)) = true := by simp; omega
      have b1 : (0 : Int) ≤ (kk : Int) := by omega
      have b2 : (kk : Int) < (xss.length : Int) := by omega
      obtain ⟨cs, hcs⟩ : ∃ cs, xss[kk]? = some cs := ⟨_, List.getElem?_eq_getElem hlt⟩
      obtain ⟨x, hx⟩ : ∃ x, xs[kk]? = some x := ⟨_, List.getElem?_eq_getElem (by rw [LN.out]; exact hlt)⟩
      have SW := Lib.hid (HS.out.below BW.out)
      obtain ⟨p, A1_, c1, B1, d1_, ecs, hsp⟩ := SW.out.sgs.2 kk cs x hcs hx
      subst ecs
      obtain ⟨ad, e0, y0, y1, y2, y3, y4⟩ := at_Q SW.out.row hcs hlt
      subst e0
      have hcall := Lib.hid (HP.out wr x p A1_ c1 B1 d1_ (List.mem_of_getElem? hx) BW.out hsp)
      have D := Lib.hid (drop_atQ hx)
      clear hx hcs hsp SW
      cases hq : q x with
      | true =>
        have Q := Lib.hid hq
        rw [hq] at hcall
        clear hq
        go_wp2_with ((with_reducible refine hcall.out.mono ?_); rintro e w' ⟨rfl, hb'⟩; have HB := Lib.hid hb'; clear hb')
        go_ret
        refine ⟨?_, below_step BW.out HB.out⟩
        rw [A1.out, D.out]
        simp only [idxQ, Q.out, if_true]
        rfl
      | false =>
        have Q := Lib.hid hq
        rw [hq] at hcall
        clear hq
        go_wp2_with ((with_reducible refine hcall.out.mono ?_); rintro e w' ⟨rfl, hb'⟩; have HB := Lib.hid hb'; clear hb')
        go_roundw
        case rel =>
          refine ⟨kk + 1, by omega, by go_num, Lib.hid (below_step BW.out HB.out), Lib.hid ?_⟩
          rw [A1.out, D.out]
          simp only [idxQ, Q.out, Bool.false_eq_true, if_false]
          rfl
        case measure =>
          simp only [cntV]
          omega
    · have d1 : decide ((kk : Int) < (xss.length : Int)) = false := by simp; omega
      go_wp2
      go_ret
      refine ⟨?_, BW.out⟩
      rw [A1.out, List.drop_of_length_le (by rw [LN.out]; omega)]
      rfl
theorem idxQ_plc (xs : List G) (d : Int) : ∀ (e j : Nat), xs.length - j = e → j ≤ xs.length → idxQ (fun x => decide (x.f0 = d)) (xs.drop j) j = plc xs d e j
  | 0, j, he, hj => by
    rw [List.drop_of_length_le (by omega)]
    rfl
  | e + 1, j, he, hj => by
    obtain ⟨x, hx⟩ : ∃ x, xs[j]? = some x := ⟨_, List.getElem?_eq_getElem (by omega)⟩
    rw [drop_atQ hx]
    have ep : plc xs d (e + 1) j = if x.f0 = d then (j : Int) else plc xs d e (j + 1) := by simp only [plc, hx]
    rw [ep]
    simp only [idxQ, decide_eq_true_eq]
    split
    · rfl
    · exact idxQ_plc xs d e (j + 1) (by omega) (by omega)
set_option maxRecDepth 100000 in
set_option maxHeartbeats 1600000 in
theorem place_pred (x : G) (p A : Option Addr) (c : Nat) (B : Option Addr) (d : Nat) (b : Nat) (m : Int) (w : World) (hc : w.heap[b]? = some (.cells #[.int .i64 m] 3 (0, 0))) :
    Calls Tryd.prog 57 #[.agg (sgC x p A c B d), .pointer (some ⟨b, 0, none⟩)] w fun e w' => e = .returned (.bool (decide (x.f0 = m))) ∧ Below w.heap.size w w' := by
  have HC := Lib.hid hc
  clear hc
  go_enter Tryd.func57, Tryd.ntmps57
  go_upto_region 1 with (first | ((with_reducible refine gate_dst (N := 2) rfl ?_); refine box_event ?hg (N := 2) ?hd (cs := sgC x p A c B d) (t := 45) ?hr ?_; (case hd => rfl); (case hg => rfl); (case hr => first | (go_simp; done) | (go_simp; rfl)); intro gX hgX wX hxX hbX; have BX := Lib.hid hbX; have XX := Lib.hid hxX; clear hgX hxX hbX))
  have c1_ := blk_cell (blk_below HC.out BX.out) 0
  have QS := Lib.hid (show Q5 wX gX x p A c B d wX ∧ wX.cell? ⟨b, 0, none⟩ = some (.int .i64 m) from ⟨Q5.of XX.out (Below.refl _ _), c1_⟩)
  clear c1_
  go_region_held3 (fun w' => Q5 wX gX x p A c B d w' ∧ w'.cell? ⟨b, 0, none⟩ = some (.int .i64 m))
    (first | (with_reducible assumption) | (with_reducible exact HS5.out) | exact ⟨QS.out.1.next (by (with_reducible repeat (first | exact Below.refl _ _ | apply pw_below_drewN | apply Below.drew))), pw_cell_below (by (with_reducible repeat (first | exact Below.refl _ _ | apply pw_below_drewN | apply Below.drew))) QS.out.2⟩)
    (first | (go_at_call 32; (with_reducible refine (id_calls x p A c B d _).mono ?_); rintro e w5 ⟨rfl, hb5⟩; have HS5 := Lib.hid (show Q5 wX gX x p A c B d w5 ∧ w5.cell? ⟨b, 0, none⟩ = some (.int .i64 m) from ⟨Q5.next (V := wX) (gX := gX) (x := x) (p := p) (A := A) (c := c) (B := B) (d := d) (And.left (by assumption)) hb5, pw_cell_below hb5 (And.right (by assumption))⟩); clear hb5))
  all_goals
    have B5 := Lib.hid (below_step BX.out (Q5.b HS5.out.1))
    clear HS5 QS XX BX
    go_wp2
    go_ret
    refine ⟨?_, B5.out⟩
    first | rfl | (congr 2; simp)
set_option maxRecDepth 100000 in
set_option maxHeartbeats 1600000 in
theorem place_calls (f : Bool) (A : Option Addr) (c : Nat) (xss : List (List Value)) (xs : List G) (m : Int) (w : World) (h : Sh w A c xss xs) (hl : xss.length ≤ 1099511627776) :
    Calls Tryd.prog 37 #[.agg #[.bool f, .slice A xss.length c], .int .i64 m] w fun e w' => e = .returned (.int .i64 (plc xs m xs.length 0)) ∧ Below w.heap.size w w' := by
  have HS := Lib.hid h
  clear h
  go_enter Tryd.func37, Tryd.ntmps37
  go_wp2_with fail
  have B0 : Hid (Below w.heap.size w ((w.alloc (.cells #[.bool f, .slice A xss.length c] 25)).alloc (.cells #[.int .i64 m] 3))) := Lib.hid (below_alloc (below_alloc (Below.refl _ _) _) _)
  have X1 : Hid (((w.alloc (.cells #[.bool f, .slice A xss.length c] 25)).alloc (.cells #[.int .i64 m] 3)).heap[w.heap.size + 1]? = some (.cells #[.int .i64 m] 3 (0, 0))) := Lib.hid (blk_newS (by simp))
  go_at_call 56
  refine (indexQ A c xss xs 57 #[.pointer (some ⟨w.heap.size + 1, 0, none⟩)] (fun x => decide (x.f0 = m)) _ (Go.Proofs.enters_of Tryd.func57 (by kernel_rfl) rfl) ?hp (HS.out.below B0.out) hl).mono ?_
  case hp =>
    intro W x p A2 c2 B2 d2 hx hb hs
    exact place_pred x p A2 c2 B2 d2 _ m W (blk_below X1.out hb)
  rintro e w1 ⟨rfl, hb1⟩
  have E := idxQ_plc xs m xs.length 0 rfl (by omega)
  rw [List.drop_zero] at E
  have E1 : idxQ (fun x => decide (x.f0 = m)) xs 0 = plc xs m xs.length 0 := E
  rw [E1]
  have B1 := Lib.hid (below_step B0.out hb1)
  clear hb1 B0 X1 E E1
  go_wp2
  go_ret
  exact ⟨rfl, B1.out⟩
end Go.Proofs.YtkkjebjlgcggcaaDoor.Seg
/- Sheets: the walks of Find and Set. Conditions: at most 2^40 segments. -/
namespace Go.Proofs.YtkkjebjlgcggcaaDoor.Seg
open Go.RowKit Go.Maps Go.Proofs.YtkkjebjlgcggcaaDoorW.PrintWords Go.Proofs.YtkkjebjlgcggcaaDoorW.PrintLast Go.Proofs.YtkkjebjlgcggcaaDoorW.PrintMore Go.Proofs.YtkkjebjlgcggcaaDoor.Rope Go.Proofs.YtkkjebjlgcggcaaDoor.PSheetFinds Go.Proofs.YtkkjebjlgcggcaaDoor.Pure
set_option linter.unusedVariables false
set_option linter.unusedSimpArgs false
theorem plc_cases (xs : List G) (d : Int) : ∀ (e j : Nat), xs.length - j = e → j ≤ xs.length → plc xs d e j = -1 ∨ ∃ (kk : Nat) (x : G), plc xs d e j = (kk : Int) ∧ xs[kk]? = some x ∧ x.f0 = d
  | 0, j, he, hj => .inl rfl
  | e + 1, j, he, hj => by
    obtain ⟨x, hx⟩ : ∃ x, xs[j]? = some x := ⟨_, List.getElem?_eq_getElem (by omega)⟩
    have ep : plc xs d (e + 1) j = if x.f0 = d then (j : Int) else plc xs d e (j + 1) := by simp only [plc, hx]
    rw [ep]
    by_cases h : x.f0 = d
    · exact .inr ⟨j, x, by rw [if_pos h], hx, h⟩
    · rw [if_neg h]
      exact plc_cases xs d e (j + 1) (by omega) (by omega)
def RetF0 (w : World) (e : Ending) (w' : World) : Prop := e = .returned (.tuple #[.agg zC, .bool false]) ∧ Below w.heap.size w w'
set_option maxRecDepth 1000000 in
set_option maxHeartbeats 4000000 in
theorem find_miss (f : Bool) (A : Option Addr) (c : Nat) (xss : List (List Value)) (xs : List G) (m : Int) (w : World) (h : Sh w A c xss xs) (hl : xss.length ≤ 1099511627776) (hm : plc xs m xs.length 0 = -1) :
    Calls Tryd.prog 17 #[.agg #[.bool f, .slice A xss.length c], .int .i64 m] w (RetF0 w) := by
  have HS := Lib.hid h
  have PL := Lib.hid hm
  clear h hm
  go_enter Tryd.func17, Tryd.ntmps17
  go_upto_region 1 with (first | ((with_reducible refine gate_dst (N := 2) rfl ?_); refine box_event ?hg (N := 2) ?hd (cs := #[.bool f, .slice A xss.length c]) (t := 25) ?hr ?_; (case hd => rfl); (case hg => rfl); (case hr => first | (go_simp; done) | (go_simp; rfl)); intro gX hgX wX hxX hbX; have BX := Lib.hid hbX; have XX := Lib.hid hxX; clear hgX hxX hbX) | ((with_reducible refine gate_dst (N := 4) rfl ?_); refine box_event ?hg (N := 4) ?hd (cs := #[.int .i64 0, .int .i64 0, .pointer none, .slice none 0 0, .slice none 0 0]) (t := 45) ?hr ?_; (case hd => rfl); (case hg => rfl); (case hr => first | (go_simp; done) | (go_simp; rfl)); intro gR hgR wR hxR hbR; have XR := Lib.hid hxR; have BR := Lib.hid hbR; have GR_ := Lib.hid (show w.heap.size ≤ gR by rw [hgR]; exact BX.out.size); clear hgR hxR hbR))
  have b0 := (blk_cell (blk_below XX.out BR.out) 0).trans rfl
  have b1 := (blk_cell (blk_below XX.out BR.out) 1).trans rfl
  go_wp2_with fail
  (go_at_call 37; refine (place_calls f A c xss xs m _ (HS.out.below (below_step BX.out BR.out)) hl).mono ?_; rw [PL.out]; rintro e w5 ⟨rfl, hb5⟩)
  have hR5 := blk_below XR.out hb5
  have B5 := Lib.hid (below_step (below_step BX.out BR.out) hb5)
  have X5 := Lib.hid hR5
  have q0 := (blk_cell hR5 0).trans rfl
  have z0 := blk_frozen hR5 0
  have q1 := (blk_cell hR5 1).trans rfl
  have z1 := blk_frozen hR5 1
  have q2 := (blk_cell hR5 2).trans rfl
  have z2 := blk_frozen hR5 2
  have q3 := (blk_cell hR5 3).trans rfl
  have z3 := blk_frozen hR5 3
  have q4 := (blk_cell hR5 4).trans rfl
  have z4 := blk_frozen hR5 4
  clear hb5 hR5 XX XR BX BR b0 b1
  go_wp2
  refine bodyPost_ret (results_ct rfl _ _ gR 45 zC (0, 0) _ rfl (by simpa using blk_set (blk_set (blk_set (blk_set (blk_set X5.out 0 (.int .i64 0)) 1 (.int .i64 0)) 2 (.pointer none)) 3 (.slice none 0 0)) 4 (.slice none 0 0)) Tryd.underlying45 rfl (by kernel_rfl)) rfl ?_
  exact ⟨rfl, below_set (below_set (below_set (below_set (below_set B5.out GR_.out) GR_.out) GR_.out) GR_.out) GR_.out⟩
set_option maxRecDepth 1000000 in
set_option maxHeartbeats 4000000 in
theorem find_hit (f : Bool) (A : Option Addr) (c : Nat) (xss : List (List Value)) (xs : List G) (m : Int) (kk : Nat) (x : G) (w : World) (h : Sh w A c xss xs) (hl : xss.length ≤ 1099511627776) (hm : plc xs m xs.length 0 = (kk : Int)) (hx : xs[kk]? = some x) :
    Calls Tryd.prog 17 #[.agg #[.bool f, .slice A xss.length c], .int .i64 m] w (RetSeg x w) := by
  have HS := Lib.hid h
  have PL := Lib.hid hm
  have LN := Lib.hid h.len
  have hlt : kk < xss.length := by have := (List.getElem?_eq_some_iff.1 hx).1; have := h.len; omega
  have HX := Lib.hid hx
  clear h hm hx
  go_enter Tryd.func17, Tryd.ntmps17
  go_upto_region 1 with (first | ((with_reducible refine gate_dst (N := 2) rfl ?_); refine box_event ?hg (N := 2) ?hd (cs := #[.bool f, .slice A xss.length c]) (t := 25) ?hr ?_; (case hd => rfl); (case hg => rfl); (case hr => first | (go_simp; done) | (go_simp; rfl)); intro gX hgX wX hxX hbX; have BX := Lib.hid hbX; have XX := Lib.hid hxX; clear hgX hxX hbX) | ((with_reducible refine gate_dst (N := 4) rfl ?_); refine box_event ?hg (N := 4) ?hd (cs := #[.int .i64 0, .int .i64 0, .pointer none, .slice none 0 0, .slice none 0 0]) (t := 45) ?hr ?_; (case hd => rfl); (case hg => rfl); (case hr => first | (go_simp; done) | (go_simp; rfl)); intro gR hgR wR hxR hbR; have XR := Lib.hid hxR; have BR := Lib.hid hbR; have GR_ := Lib.hid (show w.heap.size ≤ gR by rw [hgR]; exact BX.out.size); clear hgR hxR hbR))
  have b0 := (blk_cell (blk_below XX.out BR.out) 0).trans rfl
  have b1 := (blk_cell (blk_below XX.out BR.out) 1).trans rfl
  go_wp2_with fail
  (go_at_call 37; refine (place_calls f A c xss xs m _ (HS.out.below (below_step BX.out BR.out)) hl).mono ?_; rw [PL.out]; rintro e w5 ⟨rfl, hb5⟩)
  have hR5 := blk_below XR.out hb5
  have B5 := Lib.hid (below_step (below_step BX.out BR.out) hb5)
  have X5 := Lib.hid hR5
  have S5 := Lib.hid (HS.out.below B5.out)
  replace b1 := pw_cell_below hb5 b1
  clear b0
  have q0 := (blk_cell hR5 0).trans rfl
  have z0 := blk_frozen hR5 0
  have q1 := (blk_cell hR5 1).trans rfl
  have z1 := blk_frozen hR5 1
  have q2 := (blk_cell hR5 2).trans rfl
  have z2 := blk_frozen hR5 2
  have q3 := (blk_cell hR5 3).trans rfl
  have z3 := blk_frozen hR5 3
  have q4 := (blk_cell hR5 4).trans rfl
  have z4 := blk_frozen hR5 4
  clear hb5 hR5 XX XR BX BR HS
  have d1 : decide ((kk : Int) < 0) = false := by simp
  have i1 : (0 : Int) ≤ (kk : Int) := by omega
  have i2 : (kk : Int) < (xss.length : Int) := by omega
  obtain ⟨cs, hcs⟩ : ∃ cs, xss[kk]? = some cs := ⟨_, List.getElem?_eq_getElem hlt⟩
  obtain ⟨p, A1, c1, B1, d1_, ecs, hsp⟩ := S5.out.sgs.2 kk cs x hcs HX.out
  subst ecs
  obtain ⟨ad, e0, y0, y1, y2, y3, y4⟩ := at_Q S5.out.row hcs hlt
  have SP5 := Lib.hid hsp
  subst e0
  clear hcs hsp S5
  go_wp2
  refine bodyPost_ret (results_ct rfl _ _ gR 45 (sgC x p A1 c1 B1 d1_) (0, 0) _ rfl (by simpa using blk_set (blk_set (blk_set (blk_set (blk_set X5.out 0 (.int .i64 x.f0)) 1 (.int .i64 x.f1)) 2 (.pointer p)) 3 (.slice A1 x.f3.length c1)) 4 (.slice B1 x.f4.length d1_)) Tryd.underlying45 rfl (by kernel_rfl)) rfl ?_
  refine ⟨p, A1, c1, B1, d1_, rfl, ?_, below_set (below_set (below_set (below_set (below_set B5.out GR_.out) GR_.out) GR_.out) GR_.out) GR_.out⟩
  have m0 := X5.out
  have m1 := blk_set m0 0 (.int .i64 x.f0)
  have m2 := blk_set m1 1 (.int .i64 x.f1)
  have m3 := blk_set m2 2 (.pointer p)
  have m4 := blk_set m3 3 (.slice A1 x.f3.length c1)
  have s1 := SP5.out.move (set_typeS m0 (by decide) 0 (.int .i64 x.f0)) (set_typeS m0 (by decide) 0 (.int .i64 x.f0)) (set_typeS m0 (by decide) 0 (.int .i64 x.f0))
  have s2 := s1.move (set_typeS m1 (by decide) 1 (.int .i64 x.f1)) (set_typeS m1 (by decide) 1 (.int .i64 x.f1)) (set_typeS m1 (by decide) 1 (.int .i64 x.f1))
  have s3 := s2.move (set_typeS m2 (by decide) 2 (.pointer p)) (set_typeS m2 (by decide) 2 (.pointer p)) (set_typeS m2 (by decide) 2 (.pointer p))
  have s4 := s3.move (set_typeS m3 (by decide) 3 (.slice A1 x.f3.length c1)) (set_typeS m3 (by decide) 3 (.slice A1 x.f3.length c1)) (set_typeS m3 (by decide) 3 (.slice A1 x.f3.length c1))
  exact s4.move (set_typeS m4 (by decide) 4 (.slice B1 x.f4.length d1_)) (set_typeS m4 (by decide) 4 (.slice B1 x.f4.length d1_)) (set_typeS m4 (by decide) 4 (.slice B1 x.f4.length d1_))
end Go.Proofs.YtkkjebjlgcggcaaDoor.Seg
/- Sheets: the walk of Set. Conditions: at most 2^40 segments. -/
namespace Go.Proofs.YtkkjebjlgcggcaaDoor.Seg
open Go.RowKit Go.Maps Go.Proofs.YtkkjebjlgcggcaaDoorW.PrintWords Go.Proofs.YtkkjebjlgcggcaaDoorW.PrintLast Go.Proofs.YtkkjebjlgcggcaaDoorW.PrintMore Go.Proofs.YtkkjebjlgcggcaaDoor.Rope Go.Proofs.YtkkjebjlgcggcaaDoor.PSheetFinds Go.Proofs.YtkkjebjlgcggcaaDoor.Pure
set_option linter.unusedVariables false
set_option linter.unusedSimpArgs false
/-- A sheet of other segments. -/
def RetShV (f : Bool) (ys : List G) (w : World) (e : Ending) (w' : World) : Prop := ∃ A c yss, e = .returned (.agg #[.bool f, .slice A yss.length c]) ∧ Sh w' A c yss ys ∧ Below w.heap.size w w'
abbrev QSet (V : World) (gX gZ : Nat) (f : Bool) (A : Option Addr) (n c : Nat) (z : G) (p A2 : Option Addr) (c2 : Nat) (B2 : Option Addr) (d2 : Nat) (w' : World) : Prop :=
  w'.cell? ⟨gX, 0, none⟩ = some (.bool f) ∧ w'.cell? ⟨gX, 1, none⟩ = some (.slice A n c) ∧ Q5 V gZ z p A2 c2 B2 d2 w'
section
variable {V W W' : World} {gX gZ : Nat} {f : Bool} {A : Option Addr} {n c : Nat} {z : G} {p A2 : Option Addr} {c2 : Nat} {B2 : Option Addr} {d2 : Nat}
theorem QSet.b (h : QSet V gX gZ f A n c z p A2 c2 B2 d2 W) : Below V.heap.size V W := Q5.b h.2.2
theorem QSet.next (h : QSet V gX gZ f A n c z p A2 c2 B2 d2 W) (hb : Below W.heap.size W W') : QSet V gX gZ f A n c z p A2 c2 B2 d2 W' := ⟨pw_cell_below hb h.1, pw_cell_below hb h.2.1, Q5.next h.2.2 hb⟩
theorem QSet.of (h1 : V.heap[gX]? = some (.cells #[.bool f, .slice A n c] 25 (0, 0))) (h2 : V.heap[gZ]? = some (.cells (sgC z p A2 c2 B2 d2) 45 (0, 0))) (hb : Below V.heap.size V W) : QSet V gX gZ f A n c z p A2 c2 B2 d2 W :=
  ⟨blk_cell (blk_below h1 hb) 0, blk_cell (blk_below h1 hb) 1, Q5.of h2 hb⟩
end
/-- What holds where the row is a copy. -/
structure SetZ (w : World) (gX gZ gR gr : Nat) (f : Bool) (n c : Nat) (xss : List (List Value)) (xs : List G) (z : G) (p A2 : Option Addr) (c2 : Nat) (B2 : Option Addr) (d2 : Nat) (W : World) : Prop where
  b : Below w.heap.size w W
  hX : W.heap[gX]? = some (.cells #[.bool f, .slice (some ⟨gr, 0, none⟩) n c] 25 (0, 0))
  hZ : W.heap[gZ]? = some (.cells (sgC z p A2 c2 B2 d2) 45 (0, 0))
  hR : W.heap[gR]? = some (.cells #[.bool false, .slice none 0 0] 25 (0, 0))
  row : Kd.R kQ 45 W w.heap.size (fun _ => True) (.slice (some ⟨gr, 0, none⟩) n c) xss
  sgs : Sgs W xss xs
  sp : SP W z p A2 c2 B2 d2
theorem R_setQ {W : World} {base : Nat} {v : Value} {xss : List (List Value)} (h : Kd.R kQ 45 W base (fun _ => True) v xss) {g : Nat} {cs0 : Array Value} {t0 : TypeId} (hk : W.heap[g]? = some (.cells cs0 t0 (0, 0))) (ht : t0 ≠ 45) (j : Nat) (u : Value) : Kd.R kQ 45 (W.setCell ⟨g, j, none⟩ u) base (fun _ => True) v xss := by
  obtain ⟨i, o⟩ := Kd.R_own h
  refine Kd.raw_any (Kd.R_far (Kd.raw_tight h) (p := ⟨g, j, none⟩) (fun k hk' e => ?_) u)
  obtain ⟨cs', hc'⟩ := own_typed o k hk'.symm
  have e' : k = g := e
  rw [e', hk] at hc'
  injection hc' with hc'
  injection hc' with _ h2 _
  exact ht h2
/-- .. and where the other one has been put in. -/
structure SetY (w : World) (gX gR gr : Nat) (f : Bool) (n c : Nat) (xss : List (List Value)) (xs : List G) (W : World) : Prop where
  b : Below w.heap.size w W
  hX : W.heap[gX]? = some (.cells #[.bool f, .slice (some ⟨gr, 0, none⟩) n c] 25 (0, 0))
  hR : W.heap[gR]? = some (.cells #[.bool false, .slice none 0 0] 25 (0, 0))
  row : Kd.R kQ 45 W w.heap.size (fun _ => True) (.slice (some ⟨gr, 0, none⟩) n c) xss
  sgs : Sgs W xss xs
theorem Sgs.set {w : World} {xss : List (List Value)} {xs : List G} (h : Sgs w xss xs) {cs : List Value} {z : G} (hz : SgV w cs z) (i : Nat) : Sgs w (xss.set i cs) (xs.set i z) := by
  refine ⟨by rw [List.length_set, List.length_set, h.1], fun j cs' x' h1 h2 => ?_⟩
  rw [List.getElem?_set] at h1 h2
  by_cases e : i = j
  · subst e
    rw [if_pos rfl] at h1 h2
    split at h1
    · split at h2
      · injection h1 with h1
        injection h2 with h2
        subst h1; subst h2
        exact hz
      · cases h2
    · cases h1
  · rw [if_neg e] at h1 h2
    exact h.2 j cs' x' h1 h2
theorem SetY.of {w : World} {gX gZ gR gr : Nat} {f : Bool} {n c : Nat} {xss : List (List Value)} {xs : List G} {z : G} {p A2 : Option Addr} {c2 : Nat} {B2 : Option Addr} {d2 : Nat} {W W' : World} (h : SetZ w gX gZ gR gr f n c xss xs z p A2 c2 B2 d2 W) {cs : List Value} {kk : Nat}
    (hr : Kd.R kQ 45 W' w.heap.size (fun _ => True) (.slice (some ⟨gr, 0, none⟩) n c) (xss.set kk cs)) (hg : W.grownBy W' (some gr)) (hz : SgV W cs z) (hb : w.heap.size ≤ gr) : SetY w gX gR gr f n c (xss.set kk cs) (xs.set kk z) W' := by
  have hg' : W.grownBy W' (Value.slice (some ⟨gr, 0, none⟩) n c).ownBlock := hg
  have m := fun {t : TypeId} (ht : t ≠ 45) => R_typeD h.row hg' ht
  refine ⟨h.b.grown hg h.b.size (fun k e => by cases e; exact hb), (m (by decide) _ _ h.hX).trans h.hX, (m (by decide) _ _ h.hR).trans h.hR, hr, ?_⟩
  have s1 := h.sgs.set hz kk
  exact s1.move (m (by decide)) (m (by decide)) (m (by decide))
theorem row5 {w : World} {gr n : Nat} {xss : List (List Value)} (h : Kd.C kQ w (some ⟨gr, 0, none⟩) n xss) {kk : Nat} {v0 v1 v2 v3 v4 : Value} (hx : xss[kk]? = some [v0, v1, v2, v3, v4]) (hj : kk < n) :
    ∀ (j : Nat) (u : Value), [v0, v1, v2, v3, v4][j]? = some u → w.cell? ⟨gr, (kk : Int).toNat * kQ.sz + j, none⟩ = some u := by
  obtain ⟨ad, e, y0, y1, y2, y3, y4⟩ := at_Q h hx hj
  injection e with e
  subst e
  intro j u hu
  have hs : kQ.sz = 5 := rfl
  rw [hs, Int.toNat_natCast]
  rw [add_plain] at y0 y1 y2 y3 y4
  match j, hu with
  | 0, hu => simp only [List.getElem?_cons_zero, Option.some.injEq] at hu; subst hu; simpa using y0
  | 1, hu => simp only [List.getElem?_cons_succ, List.getElem?_cons_zero, Option.some.injEq] at hu; subst hu; simpa using y1
  | 2, hu => simp only [List.getElem?_cons_succ, List.getElem?_cons_zero, Option.some.injEq] at hu; subst hu; simpa using y2
  | 3, hu => simp only [List.getElem?_cons_succ, List.getElem?_cons_zero, Option.some.injEq] at hu; subst hu; simpa using y3
  | 4, hu => simp only [List.getElem?_cons_succ, List.getElem?_cons_zero, Option.some.injEq] at hu; subst hu; simpa using y4
  | j + 5, hu => simp at hu
set_option maxRecDepth 1000000 in
set_option maxHeartbeats 4000000 in
theorem set_miss (f : Bool) (A : Option Addr) (c : Nat) (xss : List (List Value)) (xs : List G) (z : G) (p A2 : Option Addr) (c2 : Nat) (B2 : Option Addr) (d2 : Nat) (w : World) (h : Sh w A c xss xs) (hl : xss.length ≤ 1099511627776) (hm : plc xs z.f0 xs.length 0 = -1) :
    Calls Tryd.prog 25 #[.agg #[.bool f, .slice A xss.length c], .agg (sgC z p A2 c2 B2 d2)] w (RetShV f xs w) := by
  have HS := Lib.hid h
  have PL := Lib.hid hm
  clear h hm
  go_enter Tryd.func25, Tryd.ntmps25
  go_upto_region 1 with (first | ((with_reducible refine gate_dst (N := 2) rfl ?_); refine box_event ?hg (N := 2) ?hd (cs := #[.bool f, .slice A xss.length c]) (t := 25) ?hr ?_; (case hd => rfl); (case hg => rfl); (case hr => first | (go_simp; done) | (go_simp; rfl)); intro gX hgX wX hxX hbX; have BX := Lib.hid hbX; have XX := Lib.hid hxX; have GXH := Lib.hid (show w.heap.size ≤ gX by rw [hgX]; exact Nat.le_refl _); clear hgX hxX hbX) | ((with_reducible refine gate_dst (N := 3) rfl ?_); refine box_event ?hg (N := 3) ?hd (cs := sgC z p A2 c2 B2 d2) (t := 45) ?hr ?_; (case hd => rfl); (case hg => rfl); (case hr => first | (go_simp; done) | (go_simp; rfl)); intro gZ hgZ wZ hxZ hbZ; have BZ := Lib.hid (below_step BX.out hbZ); have XZ := Lib.hid hxZ; have XX2 := Lib.hid (blk_below XX.out hbZ); clear hgZ hxZ hbZ) | ((with_reducible refine gate_dst (N := 4) rfl ?_); refine box_event ?hg (N := 4) ?hd (cs := #[.bool false, .slice none 0 0]) (t := 25) ?hr ?_; (case hd => rfl); (case hg => rfl); (case hr => first | (go_simp; done) | (go_simp; rfl)); intro gR hgR wR hxR hbR; have XR := Lib.hid hxR; have NE := Lib.hid (show gX ≠ gR by rw [hgR]; exact Nat.ne_of_lt (blk_lt XX2.out)); have BR := Lib.hid (below_step BZ.out hbR); have GR_ := Lib.hid (show w.heap.size ≤ gR by rw [hgR]; exact BZ.out.size); have XX3 := Lib.hid (blk_below XX2.out hbR); have XZ3 := Lib.hid (blk_below XZ.out hbR); clear hgR hxR hbR))
  have QS := Lib.hid (QSet.of XX3.out XZ3.out (Below.refl _ _))
  go_region_held3 (fun w' => QSet wR gX gZ f A xss.length c z p A2 c2 B2 d2 w')
    (first | (with_reducible assumption) | (with_reducible exact HS7.out) | (with_reducible exact HS8.out) | exact QS.out.next (by (with_reducible repeat (first | exact Below.refl _ _ | apply pw_below_drewN | apply Below.drew))))
    (first
      | (go_at_call 32; (with_reducible refine (id_calls z p A2 c2 B2 d2 _).mono ?_); rintro e w7 ⟨rfl, hb7⟩; have HS7 := Lib.hid (QSet.next (V := wR) (gX := gX) (gZ := gZ) (f := f) (A := A) (n := xss.length) (c := c) (z := z) (p := p) (A2 := A2) (c2 := c2) (B2 := B2) (d2 := d2) (by assumption) hb7); clear hb7)
      | (go_at_call 37; (with_reducible refine (place_calls f A c xss xs z.f0 _ ?ca hl).mono ?_); (case ca => exact HS.out.below (below_step BR.out (QSet.b (V := wR) (gX := gX) (gZ := gZ) (f := f) (A := A) (n := xss.length) (c := c) (z := z) (p := p) (A2 := A2) (c2 := c2) (B2 := B2) (d2 := d2) (by assumption)))); rw [PL.out]; rintro e w8 ⟨rfl, hb8⟩; have HS8 := Lib.hid (QSet.next (V := wR) (gX := gX) (gZ := gZ) (f := f) (A := A) (n := xss.length) (c := c) (z := z) (p := p) (A2 := A2) (c2 := c2) (B2 := B2) (d2 := d2) (by assumption) hb8); clear hb8))
  all_goals
    have B8 := Lib.hid (below_step BR.out (QSet.b HS8.out))
    have b0 := HS8.out.1
    have b1 := HS8.out.2.1
    have X8 := Lib.hid (blk_below XR.out (QSet.b HS8.out))
    have r0 := (blk_cell X8.out 0).trans rfl
    have r1 := (blk_cell X8.out 1).trans rfl
    have f0 := blk_frozen X8.out 0
    have f1 := blk_frozen X8.out 1
    have S8 := Lib.hid (HS.out.below B8.out)
    clear HS7 HS8 QS XX XX2 XX3 XZ XZ3 XR BX BZ BR HS
    go_wp2
    refine bodyPost_ret (results_cell_row rfl _ _ gR 25 #[.bool f, .slice A xss.length c] (0, 0) _ rfl (by simpa using blk_set (blk_set X8.out 0 (.bool f)) 1 (.slice A xss.length c)) Tryd.underlying25 rfl (by kernel_rfl)) rfl ?_
    exact ⟨A, c, xss, rfl, (S8.out.set X8.out 0 _).set (blk_set X8.out 0 _) 1 _, below_set (below_set B8.out GR_.out) GR_.out⟩
set_option maxRecDepth 1000000 in
set_option maxHeartbeats 4000000 in
theorem set_hit (f : Bool) (A : Option Addr) (c : Nat) (xss : List (List Value)) (xs : List G) (z : G) (p A2 : Option Addr) (c2 : Nat) (B2 : Option Addr) (d2 : Nat) (kk : Nat) (x : G) (w : World) (h : Sh w A c xss xs) (hs : SP w z p A2 c2 B2 d2) (hl : xss.length ≤ 1099511627776) (hm : plc xs z.f0 xs.length 0 = (kk : Int)) (hx : xs[kk]? = some x) :
    Calls Tryd.prog 25 #[.agg #[.bool f, .slice A xss.length c], .agg (sgC z p A2 c2 B2 d2)] w (RetShV f (xs.set kk z) w) := by
  have HS := Lib.hid h
  have HZ := Lib.hid hs
  have PL := Lib.hid hm
  have LN := Lib.hid h.len
  have hlt : kk < xss.length := by have := (List.getElem?_eq_some_iff.1 hx).1; have := h.len; omega
  obtain ⟨cs, hcs⟩ : ∃ cs, xss[kk]? = some cs := ⟨_, List.getElem?_eq_getElem hlt⟩
  obtain ⟨p0, A0, c0, B0, d0, ecs, _⟩ := h.sgs.2 kk cs x hcs hx
  subst ecs
  have HX := Lib.hid hcs
  clear h hm hx hs hcs
  go_enter Tryd.func25, Tryd.ntmps25
  go_upto_region 1 with (first | ((with_reducible refine gate_dst (N := 2) rfl ?_); refine box_event ?hg (N := 2) ?hd (cs := #[.bool f, .slice A xss.length c]) (t := 25) ?hr ?_; (case hd => rfl); (case hg => rfl); (case hr => first | (go_simp; done) | (go_simp; rfl)); intro gX hgX wX hxX hbX; have BX := Lib.hid hbX; have XX := Lib.hid hxX; have GXH := Lib.hid (show w.heap.size ≤ gX by rw [hgX]; exact Nat.le_refl _); clear hgX hxX hbX) | ((with_reducible refine gate_dst (N := 3) rfl ?_); refine box_event ?hg (N := 3) ?hd (cs := sgC z p A2 c2 B2 d2) (t := 45) ?hr ?_; (case hd => rfl); (case hg => rfl); (case hr => first | (go_simp; done) | (go_simp; rfl)); intro gZ hgZ wZ hxZ hbZ; have BZ := Lib.hid (below_step BX.out hbZ); have XZ := Lib.hid hxZ; have XX2 := Lib.hid (blk_below XX.out hbZ); clear hgZ hxZ hbZ) | ((with_reducible refine gate_dst (N := 4) rfl ?_); refine box_event ?hg (N := 4) ?hd (cs := #[.bool false, .slice none 0 0]) (t := 25) ?hr ?_; (case hd => rfl); (case hg => rfl); (case hr => first | (go_simp; done) | (go_simp; rfl)); intro gR hgR wR hxR hbR; have XR := Lib.hid hxR; have NE := Lib.hid (show gX ≠ gR by rw [hgR]; exact Nat.ne_of_lt (blk_lt XX2.out)); have BR := Lib.hid (below_step BZ.out hbR); have GR_ := Lib.hid (show w.heap.size ≤ gR by rw [hgR]; exact BZ.out.size); have XX3 := Lib.hid (blk_below XX2.out hbR); have XZ3 := Lib.hid (blk_below XZ.out hbR); clear hgR hxR hbR))
  have QS := Lib.hid (QSet.of XX3.out XZ3.out (Below.refl _ _))
  go_region_held3 (fun w' => QSet wR gX gZ f A xss.length c z p A2 c2 B2 d2 w')
    (first | (with_reducible assumption) | (with_reducible exact HS7.out) | (with_reducible exact HS8.out) | exact QS.out.next (by (with_reducible repeat (first | exact Below.refl _ _ | apply pw_below_drewN | apply Below.drew))))
    (first
      | (go_at_call 32; (with_reducible refine (id_calls z p A2 c2 B2 d2 _).mono ?_); rintro e w7 ⟨rfl, hb7⟩; have HS7 := Lib.hid (QSet.next (V := wR) (gX := gX) (gZ := gZ) (f := f) (A := A) (n := xss.length) (c := c) (z := z) (p := p) (A2 := A2) (c2 := c2) (B2 := B2) (d2 := d2) (by assumption) hb7); clear hb7)
      | (go_at_call 37; (with_reducible refine (place_calls f A c xss xs z.f0 _ ?ca hl).mono ?_); (case ca => exact HS.out.below (below_step BR.out (QSet.b (V := wR) (gX := gX) (gZ := gZ) (f := f) (A := A) (n := xss.length) (c := c) (z := z) (p := p) (A2 := A2) (c2 := c2) (B2 := B2) (d2 := d2) (by assumption)))); rw [PL.out]; rintro e w8 ⟨rfl, hb8⟩; have HS8 := Lib.hid (QSet.next (V := wR) (gX := gX) (gZ := gZ) (f := f) (A := A) (n := xss.length) (c := c) (z := z) (p := p) (A2 := A2) (c2 := c2) (B2 := B2) (d2 := d2) (by assumption) hb8); clear hb8))
  all_goals
    have B8 := Lib.hid (below_step BR.out (QSet.b HS8.out))
    have b0 := HS8.out.1
    have b1 := HS8.out.2.1
    have X8 := Lib.hid (blk_below XR.out (QSet.b HS8.out))
    have Y8 := Lib.hid (blk_below XX3.out (QSet.b HS8.out))
    have Z8 := Lib.hid (blk_below XZ3.out (QSet.b HS8.out))
    have S8 := Lib.hid (HS.out.below B8.out)
    have P8 := Lib.hid (HZ.out.below B8.out)
    have GX_ := Lib.hid (show w.heap.size ≤ gX from GXH.out)
    have d1 : decide ((0 : Int) ≤ (kk : Int)) = true := by simp
    clear HS7 HS8 QS XX XX2 XX3 XZ XZ3 XR BX BZ BR HS HZ
    go_wp2_with fail
    (go_at_call 36; refine (cloneQ A c xss _ S8.out.row S8.out.cap (by omega)).mono ?_; rintro e w9 ⟨v9, rfl, hr9, hb9⟩)
    obtain ⟨gr, c9, e9, hbs9, _, _⟩ := Kd.R_form hr9 (by omega)
    have GRB := Lib.hid (Nat.le_trans B8.out.size hbs9)
    clear hbs9
    subst e9
    have B9 := Lib.hid (below_step B8.out hb9)
    have R9 := Lib.hid (Kd.R_lower hr9 B8.out.size)
    have X9 := Lib.hid (blk_below X8.out hb9)
    have Y9 := Lib.hid (blk_below Y8.out hb9)
    have Z9 := Lib.hid (blk_below Z8.out hb9)
    have S9 := Lib.hid (S8.out.sgs.below hb9)
    have P9 := Lib.hid (P8.out.below hb9)
    have f9 := blk_frozen Y9.out 1
    replace b0 := pw_cell_below hb9 b0
    replace b1 := pw_cell_below hb9 b1
    clear hr9 hb9 X8 Y8 Z8 S8 P8 B8
    go_upto_region 4 with (fail)
    refine gen2 (φ := fun W => Code.wp _ _ _ _ W) (P := fun W => SetZ w gX gZ gR gr f xss.length c9 xss xs z p A2 c2 B2 d2 W) ⟨below_set B9.out GX_.out, blk_put Y9.out 1 _ rfl, (set_typeS Y9.out (by decide) 1 _ _ _ Z9.out).trans Z9.out, (Below.heap_setCell _ ⟨gX, 1, none⟩ _ gR NE.out.symm).trans X9.out, R_setQ R9.out Y9.out (by decide) 1 _, S9.out.move (set_typeS Y9.out (by decide) 1 _) (set_typeS Y9.out (by decide) 1 _) (set_typeS Y9.out (by decide) 1 _), P9.out.move (set_typeS Y9.out (by decide) 1 _) (set_typeS Y9.out (by decide) 1 _) (set_typeS Y9.out (by decide) 1 _)⟩ ?_
    clear X9 Y9 Z9 R9 S9 P9 B9 b0 b1 f9
    rintro V hV
    have PV := Lib.hid hV
    have RV := Lib.hid (Kd.R_reads' hV.row)
    have x1 := (blk_cell hV.hX 1).trans rfl
    have a0 := (blk_cell hV.hZ 0).trans rfl
    have a1 := (blk_cell hV.hZ 1).trans rfl
    have a2 := (blk_cell hV.hZ 2).trans rfl
    have a3 := (blk_cell hV.hZ 3).trans rfl
    have a4 := (blk_cell hV.hZ 4).trans rfl
    have i1 : (0 : Int) ≤ (kk : Int) := by omega
    have i2 : (kk : Int) < (xss.length : Int) := by omega
    clear hV
    obtain ⟨iu, ou⟩ := Kd.R_own PV.out.row
    obtain ⟨cu, hcu⟩ := own_typed ou gr rfl
    clear ou
    have HC := Lib.hid (row5 RV.out.2.2 HX.out hlt)
    have r0 : V.cell? ⟨gr, kk * 5, none⟩ = some (.int .i64 x.f0) := HC.out 0 _ rfl
    have r1 : V.cell? ⟨gr, kk * 5 + 1, none⟩ = some (.int .i64 x.f1) := HC.out 1 _ rfl
    have r2 : V.cell? ⟨gr, kk * 5 + 2, none⟩ = some (.pointer p0) := HC.out 2 _ rfl
    have r3 : V.cell? ⟨gr, kk * 5 + 3, none⟩ = some (.slice A0 x.f3.length c0) := HC.out 3 _ rfl
    have r4 : V.cell? ⟨gr, kk * 5 + 4, none⟩ = some (.slice B0 x.f4.length d0) := HC.out 4 _ rfl
    have f0 : V.frozen? ⟨gr, kk * 5, none⟩ = false := blk_frozen hcu _
    have f1 : V.frozen? ⟨gr, kk * 5 + 1, none⟩ = false := blk_frozen hcu _
    have f2 : V.frozen? ⟨gr, kk * 5 + 2, none⟩ = false := blk_frozen hcu _
    have f3 : V.frozen? ⟨gr, kk * 5 + 3, none⟩ = false := blk_frozen hcu _
    have f4 : V.frozen? ⟨gr, kk * 5 + 4, none⟩ = false := blk_frozen hcu _
    have SG := Lib.hid (Kd.R_seg (j := 0) (seg := [.int .i64 z.f0, .int .i64 z.f1, .pointer p, .slice A2 z.f3.length c2, .slice B2 z.f4.length d2]) PV.out.row (kk : Int) i1 i2 rfl HC.out (show (5 : Nat) ≤ 5 from Nat.le_refl _) (x' := [.int .i64 z.f0, .int .i64 z.f1, .pointer p, .slice A2 z.f3.length c2, .slice B2 z.f4.length d2]) (okp := fun k => True ∧ k ≠ gr) ⟨rfl, rfl, one5⟩ (fun _ h => h))
    clear hcu HC
    go_upto_region 5 with (fail)
    clear r0 r1 r2 r3 r4 f0 f1 f2 f3 f4 x1 a0 a1 a2 a3 a4
    refine gen2 (φ := fun W => Code.wp _ _ _ _ W) (P := fun W => SetY w gX gR gr f xss.length c9 (xss.set kk [.int .i64 z.f0, .int .i64 z.f1, .pointer p, .slice A2 z.f3.length c2, .slice B2 z.f4.length d2]) (xs.set kk z) W) (SetY.of PV.out SG.out.1 SG.out.2 ⟨p, A2, c2, B2, d2, rfl, PV.out.sp⟩ GRB.out) ?_
    clear SG PV RV
    rintro U hU
    have PU := Lib.hid hU
    have b0 := (blk_cell hU.hX 0).trans rfl
    have b1 := (blk_cell hU.hX 1).trans rfl
    have r0 := (blk_cell hU.hR 0).trans rfl
    have r1 := (blk_cell hU.hR 1).trans rfl
    have f0 := blk_frozen hU.hR 0
    have f1 := blk_frozen hU.hR 1
    clear hU
    go_wp2
    refine bodyPost_ret (results_cell_row rfl _ _ gR 25 #[.bool f, .slice (some ⟨gr, 0, none⟩) xss.length c9] (0, 0) _ rfl (by simpa using blk_set (blk_set PU.out.hR 0 (.bool f)) 1 (.slice (some ⟨gr, 0, none⟩) xss.length c9)) Tryd.underlying25 rfl (by kernel_rfl)) rfl ?_
    have LE : (xss.set kk [.int .i64 z.f0, .int .i64 z.f1, .pointer p, .slice A2 z.f3.length c2, .slice B2 z.f4.length d2]).length = xss.length := List.length_set
    have SH := Sh.of (LE.symm ▸ PU.out.row) PU.out.sgs
    exact ⟨some ⟨gr, 0, none⟩, c9, _, by rw [LE], (SH.set PU.out.hR 0 _).set (blk_set PU.out.hR 0 _) 1 _, below_set (below_set PU.out.b GR_.out) GR_.out⟩
end Go.Proofs.YtkkjebjlgcggcaaDoor.Seg
/- The walk of the document's Set of a sheet. Conditions: at most 2^40 segments. -/
namespace Go.Proofs.YtkkjebjlgcggcaaDoor.Seg
open Go.RowKit Go.Maps Go.Proofs.YtkkjebjlgcggcaaDoorW.PrintWords Go.Proofs.YtkkjebjlgcggcaaDoorW.PrintLast Go.Proofs.YtkkjebjlgcggcaaDoorW.PrintMore Go.Proofs.YtkkjebjlgcggcaaDoor.Rope Go.Proofs.YtkkjebjlgcggcaaDoor.PSheetFinds Go.Proofs.YtkkjebjlgcggcaaDoor.Pure
set_option linter.unusedVariables false
set_option linter.unusedSimpArgs false
theorem one5g {i l : Int} {s : ByteArray} {A : Option Addr} {n c : Nat} {B : Option Addr} {m d : Nat} : ∀ u ∈ [Value.int .i64 i, .int .i64 l, .string s, .slice A n c, .slice B m d], u.oneCell' = true := by
  intro u hu
  simp only [List.mem_cons, List.not_mem_nil, or_false] at hu
  rcases hu with rfl | rfl | rfl | rfl | rfl <;> rfl
/-- These rows of cells are these plain segments. -/
def Gs (w : World) (css : List (List Value)) (xs : List G) : Prop := css.length = xs.length ∧ ∀ (j : Nat) cs x, css[j]? = some cs → xs[j]? = some x → kG.K w x cs
theorem Gs.below {w w1 : World} {css : List (List Value)} {xs : List G} (h : Gs w css xs) (hb : Below w.heap.size w w1) : Gs w1 css xs := ⟨h.1, fun j cs x h1 h2 => kG.K_below hb (h.2 j cs x h1 h2)⟩
theorem C_split {w : World} {A : Option Addr} {n : Nat} {xs : List G} (h : Kd.C kG w A n xs) : ∃ css : List (List Value), css.length = xs.length ∧ Kd.C kQ w A n css ∧ Gs w css xs := by
  obtain ⟨css, h1, h2, h3⟩ := Kd.reads_raw h (fun x c hK => ⟨kG.K_len hK, kG.K_one hK⟩)
  exact ⟨css, h1, h2, h1, fun j cs x hc hx => h3 j x cs hx hc⟩
theorem C_join {w : World} {A : Option Addr} {n : Nat} {css : List (List Value)} {xs : List G} (h : Kd.C kQ w A n css) (hg : Gs w css xs) : Kd.C kG w A n xs := by
  refine ⟨hg.1.symm.trans h.1, h.2.1, fun hp => ?_⟩
  obtain ⟨ad, e, hx⟩ := h.2.2 hp
  refine ⟨ad, e, fun j x hj => ?_⟩
  obtain ⟨cs, hcs⟩ : ∃ cs, css[j]? = some cs := ⟨_, List.getElem?_eq_getElem (by have := (List.getElem?_eq_some_iff.1 hj).1; rw [hg.1]; exact this)⟩
  obtain ⟨cs', hl, ⟨rfl, _⟩, hcell⟩ := hx j cs hcs
  exact ⟨cs', hl, hg.2 j cs' x hcs hj, hcell⟩
theorem Gs.set {w : World} {css : List (List Value)} {xs : List G} (h : Gs w css xs) {cs : List Value} {z : G} (hz : kG.K w z cs) (i : Nat) : Gs w (css.set i cs) (xs.set i z) := by
  refine ⟨by rw [List.length_set, List.length_set, h.1], fun j cs' x' h1 h2 => ?_⟩
  rw [List.getElem?_set] at h1 h2
  by_cases e : i = j
  · subst e
    rw [if_pos rfl] at h1 h2
    split at h1
    · split at h2
      · injection h1 with h1
        injection h2 with h2
        subst h1; subst h2
        exact hz
      · cases h2
    · cases h1
  · rw [if_neg e] at h1 h2
    exact h.2 j cs' x' h1 h2
theorem own_ne {W : World} {v : Value} {g : Nat} (hg : g < W.heap.size) (h : ∃ b, v.ownBlock = some b ∧ W.heap.size ≤ b) : some g ≠ v.ownBlock := by
  obtain ⟨b, e, hb⟩ := h
  rw [e]
  intro e2
  injection e2 with e2
  omega
/-- A row of plain segments comes back. -/
def RetGL (ys : List G) (w : World) (e : Ending) (w' : World) : Prop := ∃ A c, e = .returned (.slice A ys.length c) ∧ ys.length ≤ c ∧ Kd.C kG w' A ys.length ys ∧ Below w.heap.size w w'
set_option maxRecDepth 1000000 in
set_option maxHeartbeats 4000000 in
theorem refSet_miss (A : Option Addr) (c : Nat) (xs : List G) (z : G) (A2 : Option Addr) (c2 : Nat) (B2 : Option Addr) (d2 : Nat) (w : World) (hr : Kd.C kG w A xs.length xs) (hc : xs.length ≤ c) (hz : GR w z A2 c2 B2 d2) (hl : xs.length ≤ 1099511627776) (hm : plc xs z.f0 xs.length 0 = -1) :
    Calls Tryd.prog 26 #[.slice A xs.length c, .agg (gC z A2 c2 B2 d2)] w (RetGL xs w) := by
  obtain ⟨css, hcl, hCQ, hGs⟩ := C_split hr
  obtain ⟨k4, hk4⟩ := Go.Proofs.YtkkjebjlgcggcaaDoorW.PrintWords.Ev.rounds (place_ev xs z.f0 hl)
  rw [hm] at hk4
  have HR := Lib.hid hr
  have HQ := Lib.hid hCQ
  have GS := Lib.hid hGs
  have CL := Lib.hid hcl
  have HZ := Lib.hid hz
  have K4 := Lib.hid hk4
  clear hr hz hm hCQ hGs hcl hk4
  go_enter Tryd.func26, Tryd.ntmps26
  go_upto_region 1 with (first | ((with_reducible refine gate_dst (N := 3) rfl ?_); refine box_event ?hg (N := 3) ?hd (cs := gC z A2 c2 B2 d2) (t := 40) ?hr ?_; (case hd => rfl); (case hg => rfl); (case hr => first | (go_simp; done) | (go_simp; rfl)); intro gX hgX wX hxX hbX; have BX := Lib.hid hbX; have XX := Lib.hid hxX; clear hgX hxX hbX))
  go_upto_region 2 with (first
      | ((with_reducible refine gate_dst (N := 7) rfl ?_)
         refine Kd.R_lit kQ w.heap.size 40 ?hg (N := 7) ?hd (xs := ([] : List (List Value))) (inner := []) (ok := fun _ => True) (okp := fun _ => True) ?hr ?hp (fun _ hk => hk) trivial BX.out BX.out.size (by simp) ?_
         (case hd => rfl); (case hg => rfl); (case hr => first | (go_simp; done) | (go_simp; rfl)); (case hp => exact Reps.none _ _)
         intro v1 w1 HO HB hg hat; have HO1 := Lib.hid HO; have HB1 := Lib.hid HB; have XX1 := Lib.hid (blk_grown XX.out hg (by simp)); have NE1 := Lib.hid (own_ne (blk_lt XX.out) hat); clear HO HB hg hat)
      | ((with_reducible refine gate_dst (N := 9) rfl ?_)
         go_must (refine Kd.R_append_rows kQ w.heap.size ?hg (.tmp 7) (.tmp 8) 22 40 (.agg #[.int .i64 0, .int .i64 0, .string ⟨#[]⟩, .slice none 0 0, .slice none 0 0]) 80 rfl Tryd.underlying22 infoC40 rfl (by decide) (by decide) _ [] css A xs.length c (fun _ => True) (fun k => some k ≠ v1.ownBlock) rfl rfl HO1.out (Kd.C_below HQ.out HB1.out) (fun x cs h => h) (fun _ h => ⟨trivial, h⟩) (fun _ _ => trivial) HB1.out (HB1.out.size) (by simp; omega) ?_)
         (case hg => rfl)
         intro v2 w2 HO HB hg hat; have HO2 := Lib.hid HO; have HB2 := Lib.hid HB; have XX2 := Lib.hid (blk_grown XX1.out hg NE1.out); clear HO HB hg hat))
  obtain ⟨A5, c5, e5⟩ := Kd.R_slice HO2.out
  have e6 : v2 = .slice A5 css.length c5 := e5
  subst e6
  rw [List.nil_append] at HO2
  have y0 := (blk_cell XX2.out 0).trans rfl
  clear e5 XX1 NE1 HO1 HB1 XX HQ
  go_wp2_with fail
  (go_at_call 21; refine (chancelref06_Place.calls k4 A c xs z.f0 (-1) _ (Kd.C_below HR.out HB2.out) hc K4.out).mono ?_; rintro e w3 ⟨rfl, hb3⟩)
  have hb3' : Below w2.heap.size w2 w3 := by first | exact hb3 | exact below_drawn hb3
  have B3 := Lib.hid (below_step HB2.out hb3')
  have R3 := Lib.hid (Kd.R_below HO2.out hb3')
  have X3 := Lib.hid (blk_below XX2.out hb3')
  clear hb3 hb3' y0 XX2 HB2 HO2 BX
  go_wp2
  go_ret
  obtain ⟨_, h1, h2⟩ := Kd.R_reads' R3.out
  exact ⟨A5, c5, show Ending.returned (.slice A5 css.length c5) = _ by rw [CL.out], by rw [← CL.out]; exact h1, C_join (by rw [← CL.out]; exact h2) (GS.out.below B3.out), B3.out⟩
set_option maxRecDepth 1000000 in
set_option maxHeartbeats 4000000 in
theorem refSet_hit (A : Option Addr) (c : Nat) (xs : List G) (z : G) (A2 : Option Addr) (c2 : Nat) (B2 : Option Addr) (d2 : Nat) (kk : Nat) (x : G) (w : World) (hr : Kd.C kG w A xs.length xs) (hc : xs.length ≤ c) (hz : GR w z A2 c2 B2 d2) (hl : xs.length ≤ 1099511627776) (hm : plc xs z.f0 xs.length 0 = (kk : Int)) (hx : xs[kk]? = some x) :
    Calls Tryd.prog 26 #[.slice A xs.length c, .agg (gC z A2 c2 B2 d2)] w (RetGL (xs.set kk z) w) := by
  have HX := Lib.hid hx
  have hlt := (List.getElem?_eq_some_iff.1 hx).1
  clear hx
  obtain ⟨css, hcl, hCQ, hGs⟩ := C_split hr
  obtain ⟨k4, hk4⟩ := Go.Proofs.YtkkjebjlgcggcaaDoorW.PrintWords.Ev.rounds (place_ev xs z.f0 hl)
  rw [hm] at hk4
  have HR := Lib.hid hr
  have HQ := Lib.hid hCQ
  have GS := Lib.hid hGs
  have CL := Lib.hid hcl
  have HZ := Lib.hid hz
  have K4 := Lib.hid hk4
  clear hr hz hm hCQ hGs hcl hk4
  go_enter Tryd.func26, Tryd.ntmps26
  go_upto_region 1 with (first | ((with_reducible refine gate_dst (N := 3) rfl ?_); refine box_event ?hg (N := 3) ?hd (cs := gC z A2 c2 B2 d2) (t := 40) ?hr ?_; (case hd => rfl); (case hg => rfl); (case hr => first | (go_simp; done) | (go_simp; rfl)); intro gX hgX wX hxX hbX; have BX := Lib.hid hbX; have XX := Lib.hid hxX; clear hgX hxX hbX))
  go_upto_region 2 with (first
      | ((with_reducible refine gate_dst (N := 7) rfl ?_)
         refine Kd.R_lit kQ w.heap.size 40 ?hg (N := 7) ?hd (xs := ([] : List (List Value))) (inner := []) (ok := fun _ => True) (okp := fun _ => True) ?hr ?hp (fun _ hk => hk) trivial BX.out BX.out.size (by simp) ?_
         (case hd => rfl); (case hg => rfl); (case hr => first | (go_simp; done) | (go_simp; rfl)); (case hp => exact Reps.none _ _)
         intro v1 w1 HO HB hg hat; have HO1 := Lib.hid HO; have HB1 := Lib.hid HB; have XX1 := Lib.hid (blk_grown XX.out hg (by simp)); have NE1 := Lib.hid (own_ne (blk_lt XX.out) hat); clear HO HB hg hat)
      | ((with_reducible refine gate_dst (N := 9) rfl ?_)
         go_must (refine Kd.R_append_rows kQ w.heap.size ?hg (.tmp 7) (.tmp 8) 22 40 (.agg #[.int .i64 0, .int .i64 0, .string ⟨#[]⟩, .slice none 0 0, .slice none 0 0]) 80 rfl Tryd.underlying22 infoC40 rfl (by decide) (by decide) _ [] css A xs.length c (fun _ => True) (fun k => some k ≠ v1.ownBlock) rfl rfl HO1.out (Kd.C_below HQ.out HB1.out) (fun x cs h => h) (fun _ h => ⟨trivial, h⟩) (fun _ _ => trivial) HB1.out (HB1.out.size) (by simp; omega) ?_)
         (case hg => rfl)
         intro v2 w2 HO HB hg hat; have HO2 := Lib.hid HO; have HB2 := Lib.hid HB; have XX2 := Lib.hid (blk_grown XX1.out hg NE1.out); clear HO HB hg hat))
  obtain ⟨A5, c5, e5⟩ := Kd.R_slice HO2.out
  have e6 : v2 = .slice A5 css.length c5 := e5
  subst e6
  rw [List.nil_append] at HO2
  have y0 := (blk_cell XX2.out 0).trans rfl
  clear e5 XX1 NE1 HO1 HB1 XX HQ
  go_wp2_with fail
  (go_at_call 21; refine (chancelref06_Place.calls k4 A c xs z.f0 ((kk : Int)) _ (Kd.C_below HR.out HB2.out) hc K4.out).mono ?_; rintro e w3 ⟨rfl, hb3⟩)
  have hb3' : Below w2.heap.size w2 w3 := by first | exact hb3 | exact below_drawn hb3
  have B3 := Lib.hid (below_step HB2.out hb3')
  have R3 := Lib.hid (Kd.R_below HO2.out hb3')
  have X3 := Lib.hid (blk_below XX2.out hb3')
  clear hb3 hb3' y0 XX2 HB2 HO2 BX
  obtain ⟨gr, c6, e6, hbs, _, _⟩ := Kd.R_form R3.out (by rw [CL.out]; exact Nat.lt_of_le_of_lt (Nat.zero_le _) hlt)
  injection e6 with e6 _ e7
  subst e6
  subst e7
  obtain ⟨cs, hcs⟩ : ∃ cs, css[kk]? = some cs := ⟨_, List.getElem?_eq_getElem (by rw [CL.out]; exact hlt)⟩
  obtain ⟨A0, c0, B0, d0, ecs, _⟩ := k40_open (GS.out.2 kk cs x hcs HX.out)
  subst ecs
  have i1 : (0 : Int) ≤ (kk : Int) := by omega
  have i2 : (kk : Int) < (css.length : Int) := by rw [CL.out]; omega
  have i3 : kk < css.length := by rw [CL.out]; exact hlt
  have a0 := (blk_cell X3.out 0).trans rfl
  have a1 := (blk_cell X3.out 1).trans rfl
  have a2 := (blk_cell X3.out 2).trans rfl
  have a3 := (blk_cell X3.out 3).trans rfl
  have a4 := (blk_cell X3.out 4).trans rfl
  have GRB := Lib.hid hbs
  obtain ⟨iu, ou⟩ := Kd.R_own R3.out
  obtain ⟨cu, hcu⟩ := own_typed ou gr rfl
  have HC := Lib.hid (row5 (Kd.R_reads' R3.out).2.2 hcs i3)
  have r0 : w3.cell? ⟨gr, kk * 5, none⟩ = some (.int .i64 x.f0) := HC.out 0 _ rfl
  have r1 : w3.cell? ⟨gr, kk * 5 + 1, none⟩ = some (.int .i64 x.f1) := HC.out 1 _ rfl
  have r2 : w3.cell? ⟨gr, kk * 5 + 2, none⟩ = some (.string x.f2) := HC.out 2 _ rfl
  have r3 : w3.cell? ⟨gr, kk * 5 + 3, none⟩ = some (.slice A0 x.f3.length c0) := HC.out 3 _ rfl
  have r4 : w3.cell? ⟨gr, kk * 5 + 4, none⟩ = some (.slice B0 x.f4.length d0) := HC.out 4 _ rfl
  have f0 : w3.frozen? ⟨gr, kk * 5, none⟩ = false := blk_frozen hcu _
  have f1 : w3.frozen? ⟨gr, kk * 5 + 1, none⟩ = false := blk_frozen hcu _
  have f2 : w3.frozen? ⟨gr, kk * 5 + 2, none⟩ = false := blk_frozen hcu _
  have f3 : w3.frozen? ⟨gr, kk * 5 + 3, none⟩ = false := blk_frozen hcu _
  have f4 : w3.frozen? ⟨gr, kk * 5 + 4, none⟩ = false := blk_frozen hcu _
  have KZ := Lib.hid (k40_mk w3 z (HZ.out.below B3.out).c3 (HZ.out.below B3.out).r3 (HZ.out.below B3.out).c4 (HZ.out.below B3.out).r4)
  have SG := Lib.hid (Kd.R_seg (j := 0) (seg := [.int .i64 z.f0, .int .i64 z.f1, .string z.f2, .slice A2 z.f3.length c2, .slice B2 z.f4.length d2]) R3.out (kk : Int) i1 i2 rfl HC.out (show (5 : Nat) ≤ 5 from Nat.le_refl _) (x' := [.int .i64 z.f0, .int .i64 z.f1, .string z.f2, .slice A2 z.f3.length c2, .slice B2 z.f4.length d2]) (okp := fun k => True ∧ k ≠ gr) ⟨rfl, rfl, one5g⟩ (fun _ h => h))
  clear hcu ou HC hcs hbs
  go_upto_region 5 with (fail)
  clear r0 r1 r2 r3 r4 f0 f1 f2 f3 f4 a0 a1 a2 a3 a4
  refine gen2 (φ := fun W => Code.wp _ _ _ _ W) (P := fun W => Below w.heap.size w W ∧ Kd.R kQ 40 W w.heap.size (fun _ => True) (.slice (some ⟨gr, 0, none⟩) css.length c5) (css.set kk [.int .i64 z.f0, .int .i64 z.f1, .string z.f2, .slice A2 z.f3.length c2, .slice B2 z.f4.length d2])) ⟨B3.out.grown SG.out.2 B3.out.size (fun k e => by cases e; exact GRB.out), SG.out.1⟩ ?_
  clear SG
  rintro U ⟨hbU, hrU⟩
  have BU := Lib.hid hbU
  have RU := Lib.hid hrU
  clear hbU hrU
  go_wp2
  go_ret
  obtain ⟨h0, h1, h2⟩ := Kd.R_reads' RU.out
  have L := CL.out
  have GZ : Gs U (css.set kk [.int .i64 z.f0, .int .i64 z.f1, .string z.f2, .slice A2 z.f3.length c2, .slice B2 z.f4.length d2]) (xs.set kk z) := (GS.out.below BU.out).set (k40_mk U z (HZ.out.below BU.out).c3 (HZ.out.below BU.out).r3 (HZ.out.below BU.out).c4 (HZ.out.below BU.out).r4) kk
  have LX : (xs.set kk z).length = css.length := by rw [List.length_set, L]
  refine ⟨some ⟨gr, 0, none⟩, c5, show Ending.returned (.slice (some ⟨gr, 0, none⟩) css.length c5) = _ by rw [LX], by rw [LX]; exact h1, ?_, BU.out⟩
  rw [LX]
  rw [List.length_set] at h2
  exact C_join h2 GZ
end Go.Proofs.YtkkjebjlgcggcaaDoor.Seg
/- Sheets: small laws for the walk of SheetFinds. Conditions: none. -/
namespace Go.Proofs.YtkkjebjlgcggcaaDoor.Seg
open Go.RowKit Go.Proofs.YtkkjebjlgcggcaaDoorPl Go.Maps Go.Proofs.YtkkjebjlgcggcaaDoorW.PrintWords Go.Proofs.YtkkjebjlgcggcaaDoorW.PrintLast Go.Proofs.YtkkjebjlgcggcaaDoorW.PrintMore Go.Proofs.YtkkjebjlgcggcaaDoor.Rope Go.Proofs.YtkkjebjlgcggcaaDoor.PSheetFinds Go.Proofs.YtkkjebjlgcggcaaDoor.Pure
set_option linter.unusedVariables false
set_option linter.unusedSimpArgs false
set_option maxRecDepth 100000 in
set_option maxHeartbeats 800000 in
theorem rope_segcalls (x : G) (p A : Option Addr) (c : Nat) (B : Option Addr) (d : Nat) (w : World) :
    Calls Tryd.prog 18 #[.agg (sgC x p A c B d)] w fun e w' => e = .returned (.pointer p) ∧ Below w.heap.size w w' := by
  go_enter Tryd.func18, Tryd.ntmps18
  go_wp2
  go_ret
  refine ⟨rfl, ?_⟩
  repeat (first | exact Below.refl _ _ | apply below_alloc | (refine below_set ?_ (by simp; try omega)))
theorem shLoad_good (f : Bool) (A : Option Addr) (c : Nat) (xs : List G) (w : World) (hT : Tabs w) (hr : Kd.C kG w A xs.length xs) (hz : ∀ x ∈ xs, Sz x) (hl : xs.length ≤ 1099511627776) (hwf : ∀ x ∈ xs, (Lit.int .i64 x.f0).wf = true) (hok : okS xs) :
    Calls Tryd.prog 7 #[.bool f, .slice A xs.length c] w fun e w' => ∃ A c xss, e = .returned (.tuple #[.agg #[.bool f, .slice A xss.length c], .bool true]) ∧ Sh w' A c xss xs ∧ Below w.heap.size w w' := by
  refine (shLoad_calls f A c xs w hT hr hz hl hwf).mono ?_
  rintro e w' (⟨_, A', c', xss, rfl, hs, hb⟩ | ⟨hn, _⟩)
  · exact ⟨A', c', xss, by rw [hs.len], hs, hb⟩
  · exact absurd hok hn
theorem two_calls (w : World) : Calls Tryd.prog 8 #[] w fun e w' => ∃ A c, e = .returned (.slice A [t1, t2].length c) ∧ Kd.C kG w' A [t1, t2].length [t1, t2] ∧ Below w.heap.size w w' := by
  refine (chancellaw06_two.calls [t1, t2] w rfl).mono ?_
  rintro e w' ⟨v, rfl, hs, hb⟩
  obtain ⟨A, c, e, hc, hC⟩ := Kd.R_reads (Kd.S_R hs)
  subst e
  exact ⟨A, c, rfl, hC, hb⟩
theorem two_wf : ∀ x ∈ [t1, t2], (Lit.int .i64 x.f0).wf = true := fun x hx => by
  rcases List.mem_cons.1 hx with rfl | hx
  · rfl
  · rw [List.mem_singleton.1 hx]; rfl
theorem two_plc : plc [t1, t2] 2 [t1, t2].length 0 = ((1 : Nat) : Int) := by decide
/-- A row of one, just built. -/
theorem C_oneG {W : World} {g : Nat} {x : G} {A : Option Addr} {c : Nat} {B : Option Addr} {d : Nat} (h : W.heap[g]? = some (.cells (gC x A c B d) 40 (0, 0))) (hg : GR W x A c B d) : Kd.C kG W (some ⟨g, 0, none⟩) [x].length [x] := by
  refine ⟨rfl, by (show (1 : Nat) ≤ 9223372036854775807); decide, fun _ => ⟨_, rfl, fun j p hj => ?_⟩⟩
  cases j with
  | succ j => simp at hj
  | zero =>
    simp only [List.getElem?_cons_zero, Option.some.injEq] at hj
    subst hj
    refine ⟨_, rfl, k40_mk W x hg.c3 hg.r3 hg.c4 hg.r4, fun i u hu => ?_⟩
    rw [add_plain]
    have e : (0 * kG.sz + i) = i := by omega
    rw [e, blk_cell h i]
    simpa using hu
theorem sz_set {xs : List G} {x : G} (hz : ∀ y ∈ xs, Sz y) (zx : Sz x) (k : Nat) : ∀ y ∈ xs.set k x, Sz y := fun y hy => by
  rcases List.mem_or_eq_of_mem_set hy with h | rfl
  · exact hz y h
  · exact zx
/-- Set, and the document's. -/
theorem set_both (xs : List G) (x : G) (hl : xs.length ≤ 1099511627776) (hz : ∀ y ∈ xs, Sz y) (zx : Sz x) : ∃ ys : List G, ys.length = xs.length ∧ (∀ y ∈ ys, Sz y) ∧
    (∀ (f : Bool) (A : Option Addr) (c : Nat) (xss : List (List Value)) (p A2 : Option Addr) (c2 : Nat) (B2 : Option Addr) (d2 : Nat) (w : World), Sh w A c xss xs → SP w x p A2 c2 B2 d2 → Calls Tryd.prog 25 #[.agg #[.bool f, .slice A xss.length c], .agg (sgC x p A2 c2 B2 d2)] w (RetShV f ys w)) ∧
    (∀ (A : Option Addr) (c : Nat) (A2 : Option Addr) (c2 : Nat) (B2 : Option Addr) (d2 : Nat) (w : World), Kd.C kG w A xs.length xs → xs.length ≤ c → GR w x A2 c2 B2 d2 → Calls Tryd.prog 26 #[.slice A xs.length c, .agg (gC x A2 c2 B2 d2)] w (RetGL ys w)) := by
  rcases plc_cases xs x.f0 xs.length 0 rfl (Nat.zero_le _) with hp | ⟨kk, y, hp, hy, _⟩
  · exact ⟨xs, rfl, hz, fun f A c xss p A2 c2 B2 d2 w h hs => set_miss f A c xss xs x p A2 c2 B2 d2 w h (by rw [← h.len]; exact hl) hp, fun A c A2 c2 B2 d2 w h hc hg => refSet_miss A c xs x A2 c2 B2 d2 w h hc hg hl hp⟩
  · exact ⟨xs.set kk x, List.length_set, sz_set hz zx kk, fun f A c xss p A2 c2 B2 d2 w h hs => set_hit f A c xss xs x p A2 c2 B2 d2 kk y w h hs (by rw [← h.len]; exact hl) hp hy, fun A c A2 c2 B2 d2 w h hc hg => refSet_hit A c xs x A2 c2 B2 d2 kk y w h hc hg hl hp hy⟩
def zG : G := ⟨0, 0, ⟨#[]⟩, [], []⟩
theorem zG_sz : Sz zG := ⟨by decide, by decide, by decide⟩
theorem zG_sp (w : World) : SP w zG none none 0 none 0 := ⟨⟨⟨Nat.le_refl _, Nat.le_refl _, Kd.C_nil _ _, Kd.C_nil _ _⟩, fun _ e => (by cases e), fun _ e => (by cases e)⟩, rp_none w⟩
/-- What the last region's loads find. -/
abbrev SF (V : World) (g7 : Nat) (f : Bool) (A : Option Addr) (n c gX : Nat) (x : G) (A2 : Option Addr) (c2 : Nat) (B2 : Option Addr) (d2 gZ : Nat) (p A3 : Option Addr) (c3 : Nat) (B3 : Option Addr) (d3 : Nat) (w' : World) : Prop :=
  w'.cell? ⟨g7, 0, none⟩ = some (.bool f) ∧ w'.cell? ⟨g7, 1, none⟩ = some (.slice A n c) ∧ w'.cell? ⟨gX, 0, none⟩ = some (.int .i64 x.f0) ∧ w'.cell? ⟨gX, 1, none⟩ = some (.int .i64 x.f1) ∧ w'.cell? ⟨gX, 2, none⟩ = some (.string x.f2) ∧ w'.cell? ⟨gX, 3, none⟩ = some (.slice A2 x.f3.length c2) ∧ w'.cell? ⟨gX, 4, none⟩ = some (.slice B2 x.f4.length d2) ∧ Q5 V gZ x p A3 c3 B3 d3 w'
section
variable {V W W' : World} {g7 : Nat} {f : Bool} {A : Option Addr} {n c gX : Nat} {x : G} {A2 : Option Addr} {c2 : Nat} {B2 : Option Addr} {d2 gZ : Nat} {p A3 : Option Addr} {c3 : Nat} {B3 : Option Addr} {d3 : Nat}
theorem SF.b (h : SF V g7 f A n c gX x A2 c2 B2 d2 gZ p A3 c3 B3 d3 W) : Below V.heap.size V W := Q5.b h.2.2.2.2.2.2.2
theorem SF.next (h : SF V g7 f A n c gX x A2 c2 B2 d2 gZ p A3 c3 B3 d3 W) (hb : Below W.heap.size W W') : SF V g7 f A n c gX x A2 c2 B2 d2 gZ p A3 c3 B3 d3 W' :=
  ⟨pw_cell_below hb h.1, pw_cell_below hb h.2.1, pw_cell_below hb h.2.2.1, pw_cell_below hb h.2.2.2.1, pw_cell_below hb h.2.2.2.2.1, pw_cell_below hb h.2.2.2.2.2.1, pw_cell_below hb h.2.2.2.2.2.2.1, Q5.next h.2.2.2.2.2.2.2 hb⟩
theorem SF.of (h1 : W.heap[g7]? = some (.cells #[.bool f, .slice A n c] 25 (0, 0))) (h2 : W.heap[gX]? = some (.cells (gC x A2 c2 B2 d2) 40 (0, 0))) (h3 : Q5 V gZ x p A3 c3 B3 d3 W) : SF V g7 f A n c gX x A2 c2 B2 d2 gZ p A3 c3 B3 d3 W :=
  ⟨blk_cell h1 0, blk_cell h1 1, blk_cell h2 0, blk_cell h2 1, blk_cell h2 2, blk_cell h2 3, blk_cell h2 4, h3⟩
end
end Go.Proofs.YtkkjebjlgcggcaaDoor.Seg
