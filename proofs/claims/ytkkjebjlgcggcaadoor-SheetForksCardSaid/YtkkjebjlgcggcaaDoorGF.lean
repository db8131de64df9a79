/- Sheets: the walks of slices.IndexFunc at segments, of place and Find. Conditions: at most 2^40 segments. -/
import Derived.Test.YtkkjebjlgcggcaaDoorGE
import Derived.Shelf.Abstract
import Derived.Deep.DeepCutAuto
import Derived.Lib.SliceRun
import Derived.Lib.AppendZeros
namespace Go.Proofs.YtkkjebjlgcggcaaDoor.Seg
open Go.RowKit Go.Maps Go.Proofs.YtkkjebjlgcggcaaDoorW.PrintWords Go.Proofs.YtkkjebjlgcggcaaDoorW.PrintLast Go.Proofs.YtkkjebjlgcggcaaDoorW.PrintMore Go.Proofs.YtkkjebjlgcggcaaDoor.Rope Go.Proofs.YtkkjebjlgcggcaaDoor.PSheetForks Go.Proofs.YtkkjebjlgcggcaaDoor.Pure
set_option linter.unusedVariables false
set_option linter.unusedSimpArgs false
/-- What is asked of a predicate on the row's segments. -/
abbrev PredQ (xs : List G) (w : World) (g : Nat) (lb : Array Value) (q : G → Bool) : Prop :=
  ∀ (W : World) (x : G) (p A : Option Addr) (c : Nat) (B : Option Addr) (d : Nat), x ∈ xs → Below w.heap.size w W → SP W x p A c B d → Calls Tryd.prog g (#[Value.agg (sgC x p A c B d)] ++ lb) W fun e w' => e = .returned (.bool (q x)) ∧ Below W.heap.size W w'
/-- The first index of which q holds, from j on; -1. -/
def idxQ (q : G → Bool) : List G → Int → Int
  | [], _ => -1
  | x :: r, j => if q x then j else idxQ q r (j + 1)
theorem drop_atQ {xs : List G} {j : Nat} {x : G} (h : xs[j]? = some x) : xs.drop j = x :: xs.drop (j + 1) := by
  obtain ⟨hl, e⟩ := List.getElem?_eq_some_iff.1 h
  rw [List.drop_eq_getElem_cons hl, e]
set_option maxHeartbeats 1600000 in
set_option maxRecDepth 100000 in
theorem indexQ (A : Option Addr) (c : Nat) (xss : List (List Value)) (xs : List G) (g : Nat) (lb : Array Value) (q : G → Bool) (w : World) (eg : ∀ args w, (callFunc g args).run Tryd.prog w = .ok (.enter g args) w) (hp : PredQ xs w g lb q) (h : Sh w A c xss xs) (hl : xss.length ≤ 1099511627776) :
    Calls Tryd.prog 56 #[.slice A xss.length c, .func (.func g) #[] lb] w fun e w' => e = .returned (.int .i64 (idxQ q xs 0)) ∧ Below w.heap.size w w' := by
  have HS := Lib.hid h
  have HP := Lib.hid hp
  have LN := Lib.hid h.len
  clear h hp
  go_enter Tryd.func56, Tryd.ntmps56
  go_wp2
  go_loopw [8] (fun s8 wr => ∃ kk : Nat, kk ≤ xss.length ∧ s8 = .int .i64 (kk : Int) ∧ Hid (Below w.heap.size w wr) ∧ Hid (idxQ q xs 0 = idxQ q (xs.drop kk) kk)) (fun s8 _ => xss.length - cntV s8)
  case atStart => exact ⟨0, Nat.zero_le _, rfl, Lib.hid (Below.refl _ w), Lib.hid rfl⟩
  case round =>
    obtain ⟨kk, hkk, rfl, BW, A1⟩ := hrel
    by_cases hlt : kk < xss.length
    · have d1 : decide ((kk : Int) < (xss.length : Int)) = true := by simp; omega
      have b1 : (0 : Int) ≤ (kk : Int) := by omega
      have b2 : (kk : Int) < (xss.length : Int) := by omega
      obtain ⟨cs, hcs⟩ : ∃ cs, xss[kk]? = some cs := ⟨_, List.getElem?_eq_getElem hlt⟩
      obtain ⟨x, hx⟩ : ∃ x, xs[kk]? = some x := ⟨_, List.getElem?_eq_getElem (by rw [LN.out]; exact hlt)⟩
      have SW := Lib.hid (HS.out.below BW.out)
      obtain ⟨p, A1_, c1, B1, d1_, ecs, hsp⟩ := SW.out.sgs.2 kk cs x hcs hx
      subst ecs
      obtain ⟨ad, e0, y0, y1, y2, y3, y4⟩ := at_Q SW.out.row hcs hlt
      subst e0
      have hcall := Lib.hid (HP.out wr x p A1_ c1 B1 d1_ (List.mem_of_getElem? hx) BW.out hsp)
      have D := Lib.hid (drop_atQ hx)
      clear hx hcs hsp SW
      cases hq : q x with
      | true =>
        have Q := Lib.hid hq
        rw [hq] at hcall
        clear hq
        go_wp2_with ((with_reducible refine hcall.out.mono ?_); rintro e w' ⟨rfl, hb'⟩; have HB := Lib.hid hb'; clear hb')
        go_ret
        refine ⟨?_, below_step BW.out HB.out⟩
        rw [A1.out, D.out]
        simp only [idxQ, Q.out, if_true]
        rfl
      | false =>
        have Q := Lib.hid hq
        rw [hq] at hcall
        clear hq
        go_wp2_with ((with_reducible refine hcall.out.mono ?_); rintro e w' ⟨rfl, hb'⟩; have HB := Lib.hid hb'; clear hb')
        go_roundw
        case rel =>
          refine ⟨kk + 1, by omega, by go_num, Lib.hid (below_step BW.out HB.out), Lib.hid ?_⟩
          rw [A1.out, D.out]
          simp only [idxQ, Q.out, Bool.false_eq_true, if_false]
          rfl
        case measure =>
          simp only [cntV]
          omega
    · have d1 : decide ((kk : Int) < (xss.length : Int)) = false := by simp; omega
      go_wp2
      go_ret
      refine ⟨?_, BW.out⟩
      rw [A1.out, List.drop_of_length_le (by rw [LN.out]; omega)]
      rfl
theorem idxQ_plc (xs : List G) (d : Int) : ∀ (e j : Nat), xs.length - j = e → j ≤ xs.length → idxQ (fun x => decide (x.f0 = d)) (xs.drop j) j = plc xs d e j
  | 0, j, he, hj => by
    rw [List.drop_of_length_le (by omega)]
    rfl
  | e + 1, j, he, hj => by
    obtain ⟨x, hx⟩ : ∃ x, xs[j]? = some x := ⟨_, List.getElem?_eq_getElem (by omega)⟩
    rw [drop_atQ hx]
    have ep : plc xs d (e + 1) j = if x.f0 = d then (j : Int) else plc xs d e (j + 1) := by simp only [plc, hx]
    rw [ep]
    simp only [idxQ, decide_eq_true_eq]
    split
    · rfl
    · exact idxQ_plc xs d e (j + 1) (by omega) (by omega)
set_option maxRecDepth 100000 in
set_option maxHeartbeats 1600000 in
theorem place_pred (x : G) (p A : Option Addr) (c : Nat) (B : Option Addr) (d : Nat) (b : Nat) (m : Int) (w : World) (hc : w.heap[b]? = some (.cells #[.int .i64 m] 3 (0, 0))) :
    Calls Tryd.prog 57 #[.agg (sgC x p A c B d), .pointer (some ⟨b, 0, none⟩)] w fun e w' => e = .returned (.bool (decide (x.f0 = m))) ∧ Below w.heap.size w w' := by
  have HC := Lib.hid hc
  clear hc
  go_enter Tryd.func57, Tryd.ntmps57
  go_upto_region 1 with (first | ((with_reducible refine gate_dst (N := 2) rfl ?_); refine box_event ?hg (N := 2) ?hd (cs := sgC x p A c B d) (t := 45) ?hr ?_; (case hd => rfl); (case hg => rfl); (case hr => first | (go_simp; done) | (go_simp; rfl)); intro gX hgX wX hxX hbX; have BX := Lib.hid hbX; have XX := Lib.hid hxX; clear hgX hxX hbX))
  have c1_ := blk_cell (blk_below HC.out BX.out) 0
  have QS := Lib.hid (show Q5 wX gX x p A c B d wX ∧ wX.cell? ⟨b, 0, none⟩ = some (.int .i64 m) from ⟨Q5.of XX.out (Below.refl _ _), c1_⟩)
  clear c1_
  go_region_held3 (fun w' => Q5 wX gX x p A c B d w' ∧ w'.cell? ⟨b, 0, none⟩ = some (.int .i64 m))
    (first | (with_reducible assumption) | (with_reducible exact HS5.out) | exact ⟨QS.out.1.next (by (with_reducible repeat (first | exact Below.refl _ _ | apply pw_below_drewN | apply Below.drew))), pw_cell_below (by (with_reducible repeat (first | exact Below.refl _ _ | apply pw_below_drewN | apply Below.drew))) QS.out.2⟩)
    (first | (go_at_call 32; (with_reducible refine (id_calls x p A c B d _).mono ?_); rintro e w5 ⟨rfl, hb5⟩; have HS5 := Lib.hid (show Q5 wX gX x p A c B d w5 ∧ w5.cell? ⟨b, 0, none⟩ = some (.int .i64 m) from ⟨Q5.next (V := wX) (gX := gX) (x := x) (p := p) (A := A) (c := c) (B := B) (d := d) (And.left (by assumption)) hb5, pw_cell_below hb5 (And.right (by assumption))⟩); clear hb5))
  all_goals
    have B5 := Lib.hid (below_step BX.out (Q5.b HS5.out.1))
    clear HS5 QS XX BX
    go_wp2
    go_ret
    refine ⟨?_, B5.out⟩
    first | rfl | (congr 2; simp)
set_option maxRecDepth 100000 in
set_option maxHeartbeats 1600000 in
theorem place_calls (f : Bool) (A : Option Addr) (c : Nat) (xss : List (List Value)) (xs : List G) (m : Int) (w : World) (h : Sh w A c xss xs) (hl : xss.length ≤ 1099511627776) :
    Calls Tryd.prog 37 #[.agg #[.bool f, .slice A xss.length c], .int .i64 m] w fun e w' => e = .returned (.int .i64 (plc xs m xs.length 0)) ∧ Below w.heap.size w w' := by
  have HS := Lib.hid h
  clear h
  go_enter Tryd.func37, Tryd.ntmps37
  go_wp2_with fail
  have B0 : Hid (Below w.heap.size w ((w.alloc (.cells #[.bool f, .slice A xss.length c] 25)).alloc (.cells #[.int .i64 m] 3))) := Lib.hid (below_alloc (below_alloc (Below.refl _ _) _) _)
  have X1 : Hid (((w.alloc (.cells #[.bool f, .slice A xss.length c] 25)).alloc (.cells #[.int .i64 m] 3)).heap[w.heap.size + 1]? = some (.cells #[.int .i64 m] 3 (0, 0))) := Lib.hid (blk_newS (by simp))
  go_at_call 56
  refine (indexQ A c xss xs 57 #[.pointer (some ⟨w.heap.size + 1, 0, none⟩)] (fun x => decide (x.f0 = m)) _ (Go.Proofs.enters_of Tryd.func57 (by kernel_rfl) rfl) ?hp (HS.out.below B0.out) hl).mono ?_
  case hp =>
    intro W x p A2 c2 B2 d2 hx hb hs
    exact place_pred x p A2 c2 B2 d2 _ m W (blk_below X1.out hb)
  rintro e w1 ⟨rfl, hb1⟩
  have E := idxQ_plc xs m xs.length 0 rfl (by omega)
  rw [List.drop_zero] at E
  have E1 : idxQ (fun x => decide (x.f0 = m)) xs 0 = plc xs m xs.length 0 := E
  rw [E1]
  have B1 := Lib.hid (below_step B0.out hb1)
  clear hb1 B0 X1 E E1
  go_wp2
  go_ret
  exact ⟨rfl, B1.out⟩
end Go.Proofs.YtkkjebjlgcggcaaDoor.Seg
/- Sheets: the walks of Find and Set. Conditions: at most 2^40 segments. -/
namespace Go.Proofs.YtkkjebjlgcggcaaDoor.Seg
open Go.RowKit Go.Maps Go.Proofs.YtkkjebjlgcggcaaDoorW.PrintWords Go.Proofs.YtkkjebjlgcggcaaDoorW.PrintLast Go.Proofs.YtkkjebjlgcggcaaDoorW.PrintMore Go.Proofs.YtkkjebjlgcggcaaDoor.Rope Go.Proofs.YtkkjebjlgcggcaaDoor.PSheetForks Go.Proofs.YtkkjebjlgcggcaaDoor.Pure
set_option linter.unusedVariables false
set_option linter.unusedSimpArgs false
theorem plc_cases (xs : List G) (d : Int) : ∀ (e j : Nat), xs.length - j = e → j ≤ xs.length → plc xs d e j = -1 ∨ ∃ (kk : Nat) (x : G), plc xs d e j = (kk : Int) ∧ xs[kk]? = some x ∧ x.f0 = d
  | 0, j, he, hj => .inl rfl
  | e + 1, j, he, hj => by
    obtain ⟨x, hx⟩ : ∃ x, xs[j]? = some x := ⟨_, List.getElem?_eq_getElem (by omega)⟩
    have ep : plc xs d (e + 1) j = if x.f0 = d then (j : Int) else plc xs d e (j + 1) := by simp only [plc, hx]
    rw [ep]
    by_cases h : x.f0 = d
    · exact .inr ⟨j, x, by rw [if_pos h], hx, h⟩
    · rw [if_neg h]
      exact plc_cases xs d e (j + 1) (by omega) (by omega)
def RetF0 (w : World) (e : Ending) (w' : World) : Prop := e = .returned (.tuple #[.agg zC, .bool false]) ∧ Below w.heap.size w w'
set_option maxRecDepth 1000000 in
set_option maxHeartbeats 4000000 in
theorem find_miss (f : Bool) (A : Option Addr) (c : Nat) (xss : List (List Value)) (xs : List G) (m : Int) (w : World) (h : Sh w A c xss xs) (hl : xss.length ≤ 1099511627776) (hm : plc xs m xs.length 0 = -1) :
    Calls Tryd.prog 17 #[.agg #[.bool f, .slice A xss.length c], .int .i64 m] w (RetF0 w) := by
  have HS := Lib.hid h
  have PL := Lib.hid hm
  clear h hm
  go_enter Tryd.func17, Tryd.ntmps17
  go_upto_region 1 with (first | ((with_reducible refine gate_dst (N := 2) rfl ?_); refine box_event ?hg (N := 2) ?hd (cs := #[.bool f, .slice A xss.length c]) (t := 25) ?hr ?_; (case hd => rfl); (case hg => rfl); (case hr => first | (go_simp; done) | (go_simp; rfl)); intro gX hgX wX hxX hbX; have BX := Lib.hid hbX; have XX := Lib.hid hxX; clear hgX hxX hbX) | ((with_reducible refine gate_dst (N := 4) rfl ?_); refine box_event ?hg (N := 4) ?hd (cs := #[.int .i64 0, .int .i64 0, .pointer none, .slice none 0 0, .slice none 0 0]) (t := 45) ?hr ?_; (case hd => rfl); (case hg => rfl); (case hr => first | (go_simp; done) | (go_simp; rfl)); intro gR hgR wR hxR hbR; have XR := Lib.hid hxR; have BR := Lib.hid hbR; have GR_ := Lib.hid (show w.heap.size ≤ gR by rw [hgR]; exact BX.out.size); clear hgR hxR hbR))
  have b0 := (blk_cell (blk_below XX.out BR.out) 0).trans rfl
  have b1 := (blk_cell (blk_below XX.out BR.out) 1).trans rfl
  go_wp2_with fail
  (go_at_call 37; refine (place_calls f A c xss xs m _ (HS.out.below (below_step BX.out BR.out)) hl).mono ?_; rw [PL.out]; rintro e w5 ⟨rfl, hb5⟩)
  have hR5 := blk_below XR.out hb5
  have B5 := Lib.hid (below_step (below_step BX.out BR.out) hb5)
  have X5 := Lib.hid hR5
  have q0 := (blk_cell hR5 0).trans rfl
  have z0 := blk_frozen hR5 0
  have q1 := (blk_cell hR5 1).trans rfl
  have z1 := blk_frozen hR5 1
  have q2 := (blk_cell hR5 2).trans rfl
  have z2 := blk_frozen hR5 2
  have q3 := (blk_cell hR5 3).trans rfl
  have z3 := blk_frozen hR5 3
  have q4 := (blk_cell hR5 4).trans rfl
  have z4 := blk_frozen hR5 4
  clear hb5 hR5 XX XR BX BR b0 b1
  go_wp2
  refine bodyPost_ret (results_ct rfl _ _ gR 45 zC (0, 0) _ rfl (by simpa using blk_set (blk_set (blk_set (blk_set (blk_set X5.out 0 (.int .i64 0)) 1 (.int .i64 0)) 2 (.pointer none)) 3 (.slice none 0 0)) 4 (.slice none 0 0)) Tryd.underlying45 rfl (by kernel_rfl)) rfl ?_
  exact ⟨rfl, below_set (below_set (below_set (below_set (below_set B5.out GR_.out) GR_.out) GR_.out) GR_.out) GR_.out⟩
set_option maxRecDepth 1000000 in
set_option maxHeartbeats 4000000 in
theorem find_hit (f : Bool) (A : Option Addr) (c : Nat) (xss : List (List Value)) (xs : List G) (m : Int) (kk : Nat) (x : G) (w : World) (h : Sh w A c xss xs) (hl : xss.length ≤ 1099511627776) (hm : plc xs m xs.length 0 = (kk : Int)) (hx : xs[kk]? = some x) :
    Calls Tryd.prog 17 #[.agg #[.bool f, .slice A xss.length c], .int .i64 m] w (RetSeg x w) := by
  have HS := Lib.hid h
  have PL := Lib.hid hm
  have LN := Lib.hid h.len
  have hlt : kk < xss.length := by have := (List.getElem?_eq_some_iff.1 hx).1; have := h.len; omega
  have HX := Lib.hid hx
  clear h hm hx
  go_enter Tryd.func17, Tryd.ntmps17
  go_upto_region 1 with (first | ((with_reducible refine gate_dst (N := 2) rfl ?_); refine box_event ?hg (N := 2) ?hd (cs := #[.bool f, .slice A xss.length c]) (t := 25) ?hr ?_; (case hd => rfl); (case hg => rfl); (case hr => first | (go_simp; done) | (go_simp; rfl)); intro gX hgX wX hxX hbX; have BX := Lib.hid hbX; have XX := Lib.hid hxX; clear hgX hxX hbX) | ((with_reducible refine gate_dst (N := 4) rfl ?_); refine box_event ?hg (N := 4) ?hd (cs := #[.int .i64 0, .int .i64 0, .pointer none, .slice none 0 0, .slice none 0 0]) (t := 45) ?hr ?_; (case hd => rfl); (case hg => rfl); (case hr => first | (go_simp; done) | (go_simp; rfl)); intro gR hgR wR hxR hbR; have XR := Lib.hid hxR; have BR := Lib.hid hbR; have GR_ := Lib.hid (show w.heap.size ≤ gR by rw [hgR]; exact BX.out.size); clear hgR hxR hbR))
  have b0 := (blk_cell (blk_below XX.out BR.out) 0).trans rfl
  have b1 := (blk_cell (blk_below XX.out BR.out) 1).trans rfl
  go_wp2_with fail
  (go_at_call 37; refine (place_calls f A c xss xs m _ (HS.out.below (below_step BX.out BR.out)) hl).mono ?_; rw [PL.out]; rintro e w5 ⟨rfl, hb5⟩)
  have hR5 := blk_below XR.out hb5
  have B5 := Lib.hid (below_step (below_step BX.out BR.out) hb5)
  have X5 := Lib.hid hR5
  have S5 := Lib.hid (HS.out.below B5.out)
  replace b1 := pw_cell_below hb5 b1
  clear b0
  have q0 := (blk_cell hR5 0).trans rfl
  have z0 := blk_frozen hR5 0
  have q1 := (blk_cell hR5 1).trans rfl
  have z1 := blk_frozen hR5 1
  have q2 := (blk_cell hR5 2).trans rfl
  have z2 := blk_frozen hR5 2
  have q3 := (blk_cell hR5 3).trans rfl
  have z3 := blk_frozen hR5 3
  have q4 := (blk_cell hR5 4).trans rfl
  have z4 := blk_frozen hR5 4
  clear hb5 hR5 XX XR BX BR HS
  have d1 : decide ((kk : Int) < 0) = false := by simp
  have i1 : (0 : Int) ≤ (kk : Int) := by omega
  have i2 : (kk : Int) < (xss.length : Int) := by omega
  obtain ⟨cs, hcs⟩ : ∃ cs, xss[kk]? = some cs := ⟨_, List.getElem?_eq_getElem hlt⟩
  obtain ⟨p, A1, c1, B1, d1_, ecs, hsp⟩ := S5.out.sgs.2 kk cs x hcs HX.out
  subst ecs
  obtain ⟨ad, e0, y0, y1, y2, y3, y4⟩ := at_Q S5.out.row hcs hlt
  have SP5 := Lib.hid hsp
  subst e0
  clear hcs hsp S5
  go_wp2
  refine bodyPost_ret (results_ct rfl _ _ gR 45 (sgC x p A1 c1 B1 d1_) (0, 0) _ rfl (by simpa using blk_set (blk_set (blk_set (blk_set (blk_set X5.out 0 (.int .i64 x.f0)) 1 (.int .i64 x.f1)) 2 (.pointer p)) 3 (.slice A1 x.f3.length c1)) 4 (.slice B1 x.f4.length d1_)) Tryd.underlying45 rfl (by kernel_rfl)) rfl ?_
  refine ⟨p, A1, c1, B1, d1_, rfl, ?_, below_set (below_set (below_set (below_set (below_set B5.out GR_.out) GR_.out) GR_.out) GR_.out) GR_.out⟩
  have m0 := X5.out
  have m1 := blk_set m0 0 (.int .i64 x.f0)
  have m2 := blk_set m1 1 (.int .i64 x.f1)
  have m3 := blk_set m2 2 (.pointer p)
  have m4 := blk_set m3 3 (.slice A1 x.f3.length c1)
  have s1 := SP5.out.move (set_typeS m0 (by decide) 0 (.int .i64 x.f0)) (set_typeS m0 (by decide) 0 (.int .i64 x.f0)) (set_typeS m0 (by decide) 0 (.int .i64 x.f0))
  have s2 := s1.move (set_typeS m1 (by decide) 1 (.int .i64 x.f1)) (set_typeS m1 (by decide) 1 (.int .i64 x.f1)) (set_typeS m1 (by decide) 1 (.int .i64 x.f1))
  have s3 := s2.move (set_typeS m2 (by decide) 2 (.pointer p)) (set_typeS m2 (by decide) 2 (.pointer p)) (set_typeS m2 (by decide) 2 (.pointer p))
  have s4 := s3.move (set_typeS m3 (by decide) 3 (.slice A1 x.f3.length c1)) (set_typeS m3 (by decide) 3 (.slice A1 x.f3.length c1)) (set_typeS m3 (by decide) 3 (.slice A1 x.f3.length c1))
  exact s4.move (set_typeS m4 (by decide) 4 (.slice B1 x.f4.length d1_)) (set_typeS m4 (by decide) 4 (.slice B1 x.f4.length d1_)) (set_typeS m4 (by decide) 4 (.slice B1 x.f4.length d1_))
end Go.Proofs.YtkkjebjlgcggcaaDoor.Seg
/- Sheets: the walk of Set. Conditions: at most 2^40 segments. -/
namespace Go.Proofs.YtkkjebjlgcggcaaDoor.Seg
open Go.RowKit Go.Maps Go.Proofs.YtkkjebjlgcggcaaDoorW.PrintWords Go.Proofs.YtkkjebjlgcggcaaDoorW.PrintLast Go.Proofs.YtkkjebjlgcggcaaDoorW.PrintMore Go.Proofs.YtkkjebjlgcggcaaDoor.Rope Go.Proofs.YtkkjebjlgcggcaaDoor.PSheetForks Go.Proofs.YtkkjebjlgcggcaaDoor.Pure
set_option linter.unusedVariables false
set_option linter.unusedSimpArgs false
/-- A sheet of other segments. -/
def RetShV (f : Bool) (ys : List G) (w : World) (e : Ending) (w' : World) : Prop := ∃ A c yss, e = .returned (.agg #[.bool f, .slice A yss.length c]) ∧ Sh w' A c yss ys ∧ Below w.heap.size w w'
abbrev QSet (V : World) (gX gZ : Nat) (f : Bool) (A : Option Addr) (n c : Nat) (z : G) (p A2 : Option Addr) (c2 : Nat) (B2 : Option Addr) (d2 : Nat) (w' : World) : Prop :=
  w'.cell? ⟨gX, 0, none⟩ = some (.bool f) ∧ w'.cell? ⟨gX, 1, none⟩ = some (.slice A n c) ∧ Q5 V gZ z p A2 c2 B2 d2 w'
section
variable {V W W' : World} {gX gZ : Nat} {f : Bool} {A : Option Addr} {n c : Nat} {z : G} {p A2 : Option Addr} {c2 : Nat} {B2 : Option Addr} {d2 : Nat}
theorem QSet.b (h : QSet V gX gZ f A n c z p A2 c2 B2 d2 W) : Below V.heap.size V W := Q5.b h.2.2
theorem QSet.next (h : QSet V gX gZ f A n c z p A2 c2 B2 d2 W) (hb : Below W.heap.size W W') : QSet V gX gZ f A n c z p A2 c2 B2 d2 W' := ⟨pw_cell_below hb h.1, pw_cell_below hb h.2.1, Q5.next h.2.2 hb⟩
theorem QSet.of (h1 : V.heap[gX]? = some (.cells #[.bool f, .slice A n c] 25 (0, 0))) (h2 : V.heap[gZ]? = some (.cells (sgC z p A2 c2 B2 d2) 45 (0, 0))) (hb : Below V.heap.size V W) : QSet V gX gZ f A n c z p A2 c2 B2 d2 W :=
  ⟨blk_cell (blk_below h1 hb) 0, blk_cell (blk_below h1 hb) 1, Q5.of h2 hb⟩
end
/-- What holds where the row is a copy. -/
structure SetZ (w : World) (gX gZ gR gr : Nat) (f : Bool) (n c : Nat) (xss : List (List Value)) (xs : List G) (z : G) (p A2 : Option Addr) (c2 : Nat) (B2 : Option Addr) (d2 : Nat) (W : World) : Prop where
  b : Below w.heap.size w W
  hX : W.heap[gX]? = some (.cells #[.bool f, .slice (some ⟨gr, 0, none⟩) n c] 25 (0, 0))
  hZ : W.heap[gZ]? = some (.cells (sgC z p A2 c2 B2 d2) 45 (0, 0))
  hR : W.heap[gR]? = some (.cells #[.bool false, .slice none 0 0] 25 (0, 0))
  row : Kd.R kQ 45 W w.heap.size (fun _ => True) (.slice (some ⟨gr, 0, none⟩) n c) xss
  sgs : Sgs W xss xs
  sp : SP W z p A2 c2 B2 d2
theorem R_setQ {W : World} {base : Nat} {v : Value} {xss : List (List Value)} (h : Kd.R kQ 45 W base (fun _ => True) v xss) {g : Nat} {cs0 : Array Value} {t0 : TypeId} (hk : W.heap[g]? = some (.cells cs0 t0 (0, 0))) (ht : t0 ≠ 45) (j : Nat) (u : Value) : Kd.R kQ 45 (W.setCell ⟨g, j, none⟩ u) base (fun _ => True) v xss := by
  obtain ⟨i, o⟩ := Kd.R_own h
  refine Kd.raw_any (Kd.R_far (Kd.raw_tight h) (p := ⟨g, j, none⟩) (fun k hk' e => ?_) u)
  obtain ⟨cs', hc'⟩ := own_typed o k hk'.symm
  have e' : k = g := e
  rw [e', hk] at hc'
  injection hc' with hc'
  injection hc' with _ h2 _
  exact ht h2
/-- .. and where the other one has been put in. -/
structure SetY (w : World) (gX gR gr : Nat) (f : Bool) (n c : Nat) (xss : List (List Value)) (xs : List G) (W : World) : Prop where
  b : Below w.heap.size w W
  hX : W.heap[gX]? = some (.cells #[.bool f, .slice (some ⟨gr, 0, none⟩) n c] 25 (0, 0))
  hR : W.heap[gR]? = some (.cells #[.bool false, .slice none 0 0] 25 (0, 0))
  row : Kd.R kQ 45 W w.heap.size (fun _ => True) (.slice (some ⟨gr, 0, none⟩) n c) xss
  sgs : Sgs W xss xs
theorem Sgs.set {w : World} {xss : List (List Value)} {xs : List G} (h : Sgs w xss xs) {cs : List Value} {z : G} (hz : SgV w cs z) (i : Nat) : Sgs w (xss.set i cs) (xs.set i z) := by
  refine ⟨by rw [List.length_set, List.length_set, h.1], fun j cs' x' h1 h2 => ?_⟩
  rw [List.getElem?_set] at h1 h2
  by_cases e : i = j
  · subst e
    rw [if_pos rfl] at h1 h2
    split at h1
    · split at h2
      · injection h1 with h1
        injection h2 with h2
        subst h1; subst h2
        exact hz
      · cases h2
    · cases h1
  · rw [if_neg e] at h1 h2
    exact h.2 j cs' x' h1 h2
theorem SetY.of {w : World} {gX gZ gR gr : Nat} {f : Bool} {n c : Nat} {xss : List (List Value)} {xs : List G} {z : G} {p A2 : Option Addr} {c2 : Nat} {B2 : Option Addr} {d2 : Nat} {W W' : World} (h : SetZ w gX gZ gR gr f n c xss xs z p A2 c2 B2 d2 W) {cs : List Value} {kk : Nat}
    (hr : Kd.R kQ 45 W' w.heap.size (fun _ => True) (.slice (some ⟨gr, 0, none⟩) n c) (xss.set kk cs)) (hg : W.grownBy W' (some gr)) (hz : SgV W cs z) (hb : w.heap.size ≤ gr) : SetY w gX gR gr f n c (xss.set kk cs) (xs.set kk z) W' := by
  have hg' : W.grownBy W' (Value.slice (some ⟨gr, 0, none⟩) n c).ownBlock := hg
  have m := fun {t : TypeId} (ht : t ≠ 45) => R_typeD h.row hg' ht
  refine ⟨h.b.grown hg h.b.size (fun k e => by cases e; exact hb), (m (by decide) _ _ h.hX).trans h.hX, (m (by decide) _ _ h.hR).trans h.hR, hr, ?_⟩
  have s1 := h.sgs.set hz kk
  exact s1.move (m (by decide)) (m (by decide)) (m (by decide))
theorem row5 {w : World} {gr n : Nat} {xss : List (List Value)} (h : Kd.C kQ w (some ⟨gr, 0, none⟩) n xss) {kk : Nat} {v0 v1 v2 v3 v4 : Value} (hx : xss[kk]? = some [v0, v1, v2, v3, v4]) (hj : kk < n) :
    ∀ (j : Nat) (u : Value), [v0, v1, v2, v3, v4][j]? = some u → w.cell? ⟨gr, (kk : Int).toNat * kQ.sz + j, none⟩ = some u := by
  obtain ⟨ad, e, y0, y1, y2, y3, y4⟩ := at_Q h hx hj
  injection e with e
  subst e
  intro j u hu
  have hs : kQ.sz = 5 := rfl
  rw [hs, Int.toNat_natCast]
  rw [add_plain] at y0 y1 y2 y3 y4
  match j, hu with
  | 0, hu => simp only [List.getElem?_cons_zero, Option.some.injEq] at hu; subst hu; simpa using y0
  | 1, hu => simp only [List.getElem?_cons_succ, List.getElem?_cons_zero, Option.some.injEq] at hu; subst hu; simpa using y1
  | 2, hu => simp only [List.getElem?_cons_succ, List.getElem?_cons_zero, Option.some.injEq] at hu; subst hu; simpa using y2
  | 3, hu => simp only [List.getElem?_cons_succ, List.getElem?_cons_zero, Option.some.injEq] at hu; subst hu; simpa using y3
  | 4, hu => simp only [List.getElem?_cons_succ, List.getElem?_cons_zero, Option.some.injEq] at hu; subst hu; simpa using y4
  | j + 5, hu => simp at hu
set_option maxRecDepth 1000000 in
set_option maxHeartbeats 4000000 in
theorem set_miss (f : Bool) (A : Option Addr) (c : Nat) (xss : List (List Value)) (xs : List G) (z : G) (p A2 : Option Addr) (c2 : Nat) (B2 : Option Addr) (d2 : Nat) (w : World) (h : Sh w A c xss xs) (hl : xss.length ≤ 1099511627776) (hm : plc xs z.f0 xs.length 0 = -1) :
    Calls Tryd.prog 25 #[.agg #[.bool f, .slice A xss.length c], .agg (sgC z p A2 c2 B2 d2)] w (RetShV f xs w) := by
  have HS := Lib.hid h
  have PL := Lib.hid hm
  clear h hm
  go_enter Tryd.func25, Tryd.ntmps25
  go_upto_region 1 with (first | ((with_reducible refine gate_dst (N := 2) rfl ?_); refine box_event ?hg (N := 2) ?hd (cs := #[.bool f, .slice A xss.length c]) (t := 25) ?hr ?_; (case hd => rfl); (case hg => rfl); (case hr => first | (go_simp; done) | (go_simp; rfl)); intro gX hgX wX hxX hbX; have BX := Lib.hid hbX; have XX := Lib.hid hxX; have GXH := Lib.hid (show w.heap.size ≤ gX by rw [hgX]; exact Nat.le_refl _); clear hgX hxX hbX) | ((with_reducible refine gate_dst (N := 3) rfl ?_); refine box_event ?hg (N := 3) ?hd (cs := sgC z p A2 c2 B2 d2) (t := 45) ?hr ?_; (case hd => rfl); (case hg => rfl); (case hr => first | (go_simp; done) | (go_simp; rfl)); intro gZ hgZ wZ hxZ hbZ; have BZ := Lib.hid (below_step BX.out hbZ); have XZ := Lib.hid hxZ; have XX2 := Lib.hid (blk_below XX.out hbZ); clear hgZ hxZ hbZ) | ((with_reducible refine gate_dst (N := 4) rfl ?_); refine box_event ?hg (N := 4) ?hd (cs := #[.bool false, .slice none 0 0]) (t := 25) ?hr ?_; (case hd => rfl); (case hg => rfl); (case hr => first | (go_simp; done) | (go_simp; rfl)); intro gR hgR wR hxR hbR; have XR := Lib.hid hxR; have NE := Lib.hid (show gX ≠ gR by rw [hgR]; exact Nat.ne_of_lt (blk_lt XX2.out)); have BR := Lib.hid (below_step BZ.out hbR); have GR_ := Lib.hid (show w.heap.size ≤ gR by rw [hgR]; exact BZ.out.size); have XX3 := Lib.hid (blk_below XX2.out hbR); have XZ3 := Lib.hid (blk_below XZ.out hbR); clear hgR hxR hbR))
  have QS := Lib.hid (QSet.of XX3.out XZ3.out (Below.refl _ _))
  go_region_held3 (fun w' => QSet wR gX gZ f A xss.length c z p A2 c2 B2 d2 w')
    (first | (with_reducible assumption) | (with_reducible exact HS7.out) | (with_reducible exact HS8.out) | exact QS.out.next (by (with_reducible repeat (first | exact Below.refl _ _ | apply pw_below_drewN | apply Below.drew))))
    (first
      | (go_at_call 32; (with_reducible refine (id_calls z p A2 c2 B2 d2 _).mono ?_); rintro e w7 ⟨rfl, hb7⟩; have HS7 := Lib.hid (QSet.next (V := wR) (gX := gX) (gZ := gZ) (f := f) (A := A) (n := xss.length) (c := c) (z := z) (p := p) (A2 := A2) (c2 := c2) (B2 := B2) (d2 := d2) (by assumption) hb7); clear hb7)
      | (go_at_call 37; (with_reducible refine (place_calls f A c xss xs z.f0 _ ?ca hl).mono ?_); (case ca => exact HS.out.below (below_step BR.out (QSet.b (V := wR) (gX := gX) (gZ := gZ) (f := f) (A := A) (n := xss.length) (c := c) (z := z) (p := p) (A2 := A2) (c2 := c2) (B2 := B2) (d2 := d2) (by assumption)))); rw [PL.out]; rintro e w8 ⟨rfl, hb8⟩; have HS8 := Lib.hid (QSet.next (V := wR) (gX := gX) (gZ := gZ) (f := f) (A := A) (n := xss.length) (c := c) (z := z) (p := p) (A2 := A2) (c2 := c2) (B2 := B2) (d2 := d2) (by assumption) hb8); clear hb8))
  all_goals
    have B8 := Lib.hid (below_step BR.out (QSet.b HS8.out))
    have b0 := HS8.out.1
    have b1 := HS8.out.2.1
    have X8 := Lib.hid (blk_below XR.out (QSet.b HS8.out))
    have r0 := (blk_cell X8.out 0).trans rfl
    have r1 := (blk_cell X8.out 1).trans rfl
    have f0 := blk_frozen X8.out 0
    have f1 := blk_frozen X8.out 1
    have S8 := Lib.hid (HS.out.below B8.out)
    clear HS7 HS8 QS XX XX2 XX3 XZ XZ3 XR BX BZ BR HS
    go_wp2
    refine bodyPost_ret (results_cell_row rfl _ _ gR 25 #[.bool f, .slice A xss.length c] (0, 0) _ rfl (by simpa using blk_set (blk_set X8.out 0 (.bool f)) 1 (.slice A xss.length c)) Tryd.underlying25 rfl (by kernel_rfl)) rfl ?_
    exact ⟨A, c, xss, rfl, (S8.out.set X8.out 0 _).set (blk_set X8.out 0 _) 1 _, below_set (below_set B8.out GR_.out) GR_.out⟩
set_option maxRecDepth 1000000 in
set_option maxHeartbeats 4000000 in
theorem set_hit (f : Bool) (A : Option Addr) (c : Nat) (xss : List (List Value)) (xs : List G) (z : G) (p A2 : Option Addr) (c2 : Nat) (B2 : Option Addr) (d2 : Nat) (kk : Nat) (x : G) (w : World) (h : Sh w A c xss xs) (hs : SP w z p A2 c2 B2 d2) (hl : xss.length ≤ 1099511627776) (hm : plc xs z.f0 xs.length 0 = (kk : Int)) (hx : xs[kk]? = some x) :
    Calls Tryd.prog 25 #[.agg #[.bool f, .slice A xss.length c], .agg (sgC z p A2 c2 B2 d2)] w (RetShV f (xs.set kk z) w) := by
  have HS := Lib.hid h
  have HZ := Lib.hid hs
  have PL := Lib.hid hm
  have LN := Lib.hid h.len
  have hlt : kk < xss.length := by have := (List.getElem?_eq_some_iff.1 hx).1; have := h.len; omega
  obtain ⟨cs, hcs⟩ : ∃ cs, xss[kk]? = some cs := ⟨_, List.getElem?_eq_getElem hlt⟩
  obtain ⟨p0, A0, c0, B0, d0, ecs, _⟩ := h.sgs.2 kk cs x hcs hx
  subst ecs
  have HX := Lib.hid hcs
  clear h hm hx hs hcs
  go_enter Tryd.func25, Tryd.ntmps25
  go_upto_region 1 with (first | ((with_reducible refine gate_dst (N := 2) rfl ?_); refine box_event ?hg (N := 2) ?hd (cs := #[.bool f, .slice A xss.length c]) (t := 25) ?hr ?_; (case hd => rfl); (case hg => rfl); (case hr => first | (go_simp; done) | (go_simp; rfl)); intro gX hgX wX hxX hbX; have BX := Lib.hid hbX; have XX := Lib.hid hxX; have GXH := Lib.hid (show w.heap.size ≤ gX by rw [hgX]; exact Nat.le_refl _); clear hgX hxX hbX) | ((with_reducible refine gate_dst (N := 3) rfl ?_); refine box_event ?hg (N := 3) ?hd (cs := sgC z p A2 c2 B2 d2) (t := 45) ?hr ?_; (case hd => rfl); (case hg => rfl); (case hr => first | (go_simp; done) | (go_simp; rfl)); intro gZ hgZ wZ hxZ hbZ; have BZ := Lib.hid (below_step BX.out hbZ); have XZ := Lib.hid hxZ; have XX2 := Lib.hid (blk_below XX.out hbZ); clear hgZ hxZ hbZ) | ((with_reducible refine gate_dst (N := 4) rfl ?_); refine box_event ?hg (N := 4) ?hd (cs := #[.bool false, .slice none 0 0]) (t := 25) ?hr ?_; (case hd => rfl); (case hg => rfl); (case hr => first | (go_simp; done) | (go_simp; rfl)); intro gR hgR wR hxR hbR; have XR := Lib.hid hxR; have NE := Lib.hid (show gX ≠ gR by rw [hgR]; exact Nat.ne_of_lt (blk_lt XX2.out)); have BR := Lib.hid (below_step BZ.out hbR); have GR_ := Lib.hid (show w.heap.size ≤ gR by rw [hgR]; exact BZ.out.size); have XX3 := Lib.hid (blk_below XX2.out hbR); have XZ3 := Lib.hid (blk_below XZ.out hbR); clear hgR hxR hbR))
  have QS := Lib.hid (QSet.of XX3.out XZ3.out (Below.refl _ _))
  go_region_held3 (fun w' => QSet wR gX gZ f A xss.length c z p A2 c2 B2 d2 w')
    (first | (with_reducible assumption) | (with_reducible exact HS7.out) | (with_reducible exact HS8.out) | exact QS.out.next (by (with_reducible repeat (first | exact Below.refl _ _ | apply pw_below_drewN | apply Below.drew))))
    (first
      | (go_at_call 32; (with_reducible refine (id_calls z p A2 c2 B2 d2 _).mono ?_); rintro e w7 ⟨rfl, hb7⟩; have HS7 := Lib.hid (QSet.next (V := wR) (gX := gX) (gZ := gZ) (f := f) (A := A) (n := xss.length) (c := c) (z := z) (p := p) (A2 := A2) (c2 := c2) (B2 := B2) (d2 := d2) (by assumption) hb7); clear hb7)
      | (go_at_call 37; (with_reducible refine (place_calls f A c xss xs z.f0 _ ?ca hl).mono ?_); (case ca => exact HS.out.below (below_step BR.out (QSet.b (V := wR) (gX := gX) (gZ := gZ) (f := f) (A := A) (n := xss.length) (c := c) (z := z) (p := p) (A2 := A2) (c2 := c2) (B2 := B2) (d2 := d2) (by assumption)))); rw [PL.out]; rintro e w8 ⟨rfl, hb8⟩; have HS8 := Lib.hid (QSet.next (V := wR) (gX := gX) (gZ := gZ) (f := f) (A := A) (n := xss.length) (c := c) (z := z) (p := p) (A2 := A2) (c2 := c2) (B2 := B2) (d2 := d2) (by assumption) hb8); clear hb8))
  all_goals
    have B8 := Lib.hid (below_step BR.out (QSet.b HS8.out))
    have b0 := HS8.out.1
    have b1 := HS8.out.2.1
    have X8 := Lib.hid (blk_below XR.out (QSet.b HS8.out))
    have Y8 := Lib.hid (blk_below XX3.out (QSet.b HS8.out))
    have Z8 := Lib.hid (blk_below XZ3.out (QSet.b HS8.out))
    have S8 := Lib.hid (HS.out.below B8.out)
    have P8 := Lib.hid (HZ.out.below B8.out)
    have GX_ := Lib.hid (show w.heap.size ≤ gX from GXH.out)
    have d1 : decide ((0 : Int) ≤ (kk : Int)) = true := by simp
    clear HS7 HS8 QS XX XX2 XX3 XZ XZ3 XR BX BZ BR HS HZ
    go_wp2_with fail
    (go_at_call 36; refine (cloneQ A c xss _ S8.out.row S8.out.cap (by omega)).mono ?_; rintro e w9 ⟨v9, rfl, hr9, hb9⟩)
    obtain ⟨gr, c9, e9, hbs9, _, _⟩ := Kd.R_form hr9 (by omega)
    have GRB := Lib.hid (Nat.le_trans B8.out.size hbs9)
    clear hbs9
    subst e9
    have B9 := Lib.hid (below_step B8.out hb9)
    have R9 := Lib.hid (Kd.R_lower hr9 B8.out.size)
    have X9 := Lib.hid (blk_below X8.out hb9)
    have Y9 := Lib.hid (blk_below Y8.out hb9)
    have Z9 := Lib.hid (blk_below Z8.out hb9)
    have S9 := Lib.hid (S8.out.sgs.below hb9)
    have P9 := Lib.hid (P8.out.below hb9)
    have f9 := blk_frozen Y9.out 1
    replace b0 := pw_cell_below hb9 b0
    replace b1 := pw_cell_below hb9 b1
    clear hr9 hb9 X8 Y8 Z8 S8 P8 B8
    go_upto_region 4 with (fail)
    refine gen2 (φ := fun W => Code.wp _ _ _ _ W) (P := fun W => SetZ w gX gZ gR gr f xss.length c9 xss xs z p A2 c2 B2 d2 W) ⟨below_set B9.out GX_.out, blk_put Y9.out 1 _ rfl, (set_typeS Y9.out (by decide) 1 _ _ _ Z9.out).trans Z9.out, (Below.heap_setCell _ ⟨gX, 1, none⟩ _ gR NE.out.symm).trans X9.out, R_setQ R9.out Y9.out (by decide) 1 _, S9.out.move (set_typeS Y9.out (by decide) 1 _) (set_typeS Y9.out (by decide) 1 _) (set_typeS Y9.out (by decide) 1 _), P9.out.move (set_typeS Y9.out (by decide) 1 _) (set_typeS Y9.out (by decide) 1 _) (set_typeS Y9.out (by decide) 1 _)⟩ ?_
    clear X9 Y9 Z9 R9 S9 P9 B9 b0 b1 f9
    rintro V hV
    have PV := Lib.hid hV
    have RV := Lib.hid (Kd.R_reads' hV.row)
    have x1 := (blk_cell hV.hX 1).trans rfl
    have a0 := (blk_cell hV.hZ 0).trans rfl
    have a1 := (blk_cell hV.hZ 1).trans rfl
    have a2 := (blk_cell hV.hZ 2).trans rfl
    have a3 := (blk_cell hV.hZ 3).trans rfl
    have a4 := (blk_cell hV.hZ 4).trans rfl
    have i1 : (0 : Int) ≤ (kk : Int) := by omega
    have i2 : (kk : Int) < (xss.length : Int) := by omega
    clear hV
    obtain ⟨iu, ou⟩ := Kd.R_own PV.out.row
    obtain ⟨cu, hcu⟩ := own_typed ou gr rfl
    clear ou
    have HC := Lib.hid (row5 RV.out.2.2 HX.out hlt)
    have r0 : V.cell? ⟨gr, kk * 5, none⟩ = some (.int .i64 x.f0) := HC.out 0 _ rfl
    have r1 : V.cell? ⟨gr, kk * 5 + 1, none⟩ = some (.int .i64 x.f1) := HC.out 1 _ rfl
    have r2 : V.cell? ⟨gr, kk * 5 + 2, none⟩ = some (.pointer p0) := HC.out 2 _ rfl
    have r3 : V.cell? ⟨gr, kk * 5 + 3, none⟩ = some (.slice A0 x.f3.length c0) := HC.out 3 _ rfl
    have r4 : V.cell? ⟨gr, kk * 5 + 4, none⟩ = some (.slice B0 x.f4.length d0) := HC.out 4 _ rfl
    have f0 : V.frozen? ⟨gr, kk * 5, none⟩ = false := blk_frozen hcu _
    have f1 : V.frozen? ⟨gr, kk * 5 + 1, none⟩ = false := blk_frozen hcu _
    have f2 : V.frozen? ⟨gr, kk * 5 + 2, none⟩ = false := blk_frozen hcu _
    have f3 : V.frozen? ⟨gr, kk * 5 + 3, none⟩ = false := blk_frozen hcu _
    have f4 : V.frozen? ⟨gr, kk * 5 + 4, none⟩ = false := blk_frozen hcu _
    have SG := Lib.hid (Kd.R_seg (j := 0) (seg := [.int .i64 z.f0, .int .i64 z.f1, .pointer p, .slice A2 z.f3.length c2, .slice B2 z.f4.length d2]) PV.out.row (kk : Int) i1 i2 rfl HC.out (show (5 : Nat) ≤ 5 from Nat.le_refl _) (x' := [.int .i64 z.f0, .int .i64 z.f1, .pointer p, .slice A2 z.f3.length c2, .slice B2 z.f4.length d2]) (okp := fun k => True ∧ k ≠ gr) ⟨rfl, rfl, one5⟩ (fun _ h => h))
    clear hcu HC
    go_upto_region 5 with (fail)
    clear r0 r1 r2 r3 r4 f0 f1 f2 f3 f4 x1 a0 a1 a2 a3 a4
    refine gen2 (φ := fun W => Code.wp _ _ _ _ W) (P := fun W => SetY w gX gR gr f xss.length c9 (xss.set kk [.int .i64 z.f0, .int .i64 z.f1, .pointer p, .slice A2 z.f3.length c2, .slice B2 z.f4.length d2]) (xs.set kk z) W) (SetY.of PV.out SG.out.1 SG.out.2 ⟨p, A2, c2, B2, d2, rfl, PV.out.sp⟩ GRB.out) ?_
    clear SG PV RV
    rintro U hU
    have PU := Lib.hid hU
    have b0 := (blk_cell hU.hX 0).trans rfl
    have b1 := (blk_cell hU.hX 1).trans rfl
    have r0 := (blk_cell hU.hR 0).trans rfl
    have r1 := (blk_cell hU.hR 1).trans rfl
    have f0 := blk_frozen hU.hR 0
    have f1 := blk_frozen hU.hR 1
    clear hU
    go_wp2
    refine bodyPost_ret (results_cell_row rfl _ _ gR 25 #[.bool f, .slice (some ⟨gr, 0, none⟩) xss.length c9] (0, 0) _ rfl (by simpa using blk_set (blk_set PU.out.hR 0 (.bool f)) 1 (.slice (some ⟨gr, 0, none⟩) xss.length c9)) Tryd.underlying25 rfl (by kernel_rfl)) rfl ?_
    have LE : (xss.set kk [.int .i64 z.f0, .int .i64 z.f1, .pointer p, .slice A2 z.f3.length c2, .slice B2 z.f4.length d2]).length = xss.length := List.length_set
    have SH := Sh.of (LE.symm ▸ PU.out.row) PU.out.sgs
    exact ⟨some ⟨gr, 0, none⟩, c9, _, by rw [LE], (SH.set PU.out.hR 0 _).set (blk_set PU.out.hR 0 _) 1 _, below_set (below_set PU.out.b GR_.out) GR_.out⟩
end Go.Proofs.YtkkjebjlgcggcaaDoor.Seg
/- Sheets: the walks of New, slices.Grow at nil and slices.Concat at segments. Conditions: at most 2^40 segments in all. -/
namespace Go.Proofs.YtkkjebjlgcggcaaDoor.Seg
open Go.RowKit Go.Proofs.YtkkjebjlgcggcaaDoorPl Go.Maps Go.Proofs.YtkkjebjlgcggcaaDoorW.PrintWords Go.Proofs.YtkkjebjlgcggcaaDoorW.PrintLast Go.Proofs.YtkkjebjlgcggcaaDoorW.PrintMore Go.Proofs.YtkkjebjlgcggcaaDoor.Rope Go.Proofs.YtkkjebjlgcggcaaDoor.PSheetForks Go.Proofs.YtkkjebjlgcggcaaDoor.Pure
set_option linter.unusedVariables false
set_option linter.unusedSimpArgs false
def nG (a b : Int) : G := ⟨a, b, ⟨#[]⟩, [], []⟩
theorem nG_sp (a b : Int) (w : World) : SP w (nG a b) none none 0 none 0 := ⟨⟨⟨Nat.le_refl _, Nat.le_refl _, Kd.C_nil _ _, Kd.C_nil _ _⟩, fun _ e => (by cases e), fun _ e => (by cases e)⟩, rp_none w⟩
set_option maxRecDepth 100000 in
set_option maxHeartbeats 800000 in
theorem segNew_calls (a b : Int) (w : World) : Calls Tryd.prog 28 #[.int .i64 a, .int .i64 b] w fun e w' => e = .returned (.agg (sgC (nG a b) none none 0 none 0)) ∧ Below w.heap.size w w' := by
  go_enter Tryd.func28, Tryd.ntmps28
  go_wp2
  refine bodyPost_ret (results_cell_row rfl _ _ w.heap.size 45 #[.int .i64 a, .int .i64 b, .pointer none, .slice none 0 0, .slice none 0 0] (0, 0) _ rfl (blk_newS rfl) Tryd.underlying45 rfl (by kernel_rfl)) rfl ?_
  exact ⟨rfl, below_alloc (Below.refl _ _) _⟩
theorem zc_size (z : Array Value) (n : Nat) : (Builtin.zeroCells z n).size = n * z.size := by simp [Builtin.zeroCells]
theorem emptyQ {W : World} {base g cap : Nat} {cs : Array Value} (h : W.heap[g]? = some (.cells cs 45 (0, 0))) (hb : base ≤ g) (hs : cs.size = cap * 5) (hc : cap ≤ 9223372036854775807) : Kd.R kQ 45 W base (fun _ => True) (.slice (some ⟨g, 0, none⟩) 0 cap) [] :=
  ⟨fun _ _ => trivial, [], ⟨rfl, .inr ⟨g, cap, cs, rfl, hb, h, Nat.zero_le _, hc, hs, rfl⟩⟩, Reps.none _ _⟩
set_option maxRecDepth 100000 in
set_option maxHeartbeats 1600000 in
theorem growQ (n : Nat) (w : World) (hn : n ≤ 1099511627776) : Calls Tryd.prog 67 #[.slice none 0 0, .int .i64 (n : Int)] w fun e w' => ∃ v, e = .returned v ∧ Kd.R kQ 45 w' w.heap.size (fun _ => True) v [] ∧ Below w.heap.size w w' := by
  have d1 : decide ((n : Int) < 0) = false := by simp
  rcases Nat.eq_zero_or_pos n with h0 | h0
  · subst h0
    go_enter Tryd.func67, Tryd.ntmps67
    go_wp2
    go_ret
    exact ⟨_, rfl, Kd.R_nil _ _ _ _ _, Below.refl _ _⟩
  · have d2 : decide ((0 : Int) < (n : Int)) = true := by simp; omega
    obtain ⟨i, hi, hz, hs, hby⟩ : ∃ i, Tryd.prog.info? 45 = some i ∧ i.zero = some (.agg #[.int .i64 0, .int .i64 0, .pointer none, .slice none 0 0, .slice none 0 0]) ∧ i.size = 5 ∧ i.bytes = 72 := by
      obtain ⟨i, h1, h2⟩ := Option.map_eq_some_iff.1 infoC45
      simp only [Prod.mk.injEq] at h2
      exact ⟨i, h1, h2.1, h2.2.1, h2.2.2⟩
    go_enter Tryd.func67, Tryd.ntmps67
    have GC := Lib.hid (grownCap_ge w n 0 45)
    have GM := Lib.hid (grownCap_le_maxLen w n 0 45 (by unfold maxLen; omega))
    have RUN := Lib.hid (fun ty => Lib.run_append_nil_zeros (P := Tryd.prog) w 23 3 ty 45 i _ .i64 .i64 Tryd.underlying23 Tryd.underlying3 hi hz n h0 (by omega) (by omega) (by rw [hby]; omega))
    generalize grownCap w n 0 45 = gc at GC GM RUN
    clear hi hz hs hby
    go_wp2_with (first | ((with_reducible refine gate_builtin (b := .append) (xs := #[.tmp 20, .tmp 21]) rfl ?_); at_builtin; (refine Lib.wpList_append_run _ ?hg (.tmp 20) (.tmp 21) 23 3 ?ho (.slice none 0 0) (.int .i64 (n : Int)) ?hs ?hx _ _ (RUN.out _) ?_); (case hg => rfl); (case ho => rfl); (case hs => rfl); (case hx => rfl)))
    go_ret
    refine ⟨_, rfl, emptyQ (blk_newS rfl) ?_ ?_ ?_, ?_⟩
    · exact Nat.le_refl _
    · have e5 : (#[Value.int .i64 0, .int .i64 0, .pointer none, .slice none 0 0, .slice none 0 0] : Array Value).size = 5 := rfl
      have := GC.out
      simp only [Array.size_append, zc_size, Value.cells]
      rw [e5, ← Nat.add_mul]
      congr 1
      omega
    · have := GM.out
      unfold maxLen at this
      exact this
    · exact below_alloc (Below.drew (Below.refl _ _)) _
abbrev RowS := Option Addr × Nat × List (List Value)
def encS (L : RowS) : Value := .slice L.1 L.2.2.length L.2.1
def sumS (Ls : List RowS) : Nat := (Ls.map (·.2.2.length)).sum
def catS (Ls : List RowS) : List (List Value) := (Ls.map (·.2.2)).flatten
theorem takeS {α : Type} {l : List α} {j : Nat} {x : α} (h : l[j]? = some x) : l.take (j + 1) = l.take j ++ [x] := by
  obtain ⟨hl, e⟩ := List.getElem?_eq_some_iff.1 h
  rw [List.take_succ_eq_append_getElem hl, e]
theorem sumS_snoc (l : List RowS) (x : RowS) : sumS (l ++ [x]) = sumS l + x.2.2.length := by simp [sumS]
theorem catS_snoc (l : List RowS) (x : RowS) : catS (l ++ [x]) = catS l ++ x.2.2 := by simp [catS]
theorem catS_len (l : List RowS) : (catS l).length = sumS l := by simp [catS, sumS, List.length_flatten, Function.comp_def]
theorem sumS_take (l : List RowS) (k : Nat) : sumS (l.take k) ≤ sumS l := by
  conv => rhs; rw [← List.take_append_drop k l]
  unfold sumS
  rw [List.map_append, List.sum_append]
  omega
set_option maxRecDepth 100000 in
set_option maxHeartbeats 3200000 in
theorem concatQ (gp : Nat) (Ls : List RowS) (w : World) (hb : w.heap[gp]? = some (.cells (Ls.map encS).toArray 23 (0, 0))) (hr : ∀ L ∈ Ls, Kd.C kQ w L.1 L.2.2.length L.2.2) (hl : sumS Ls ≤ 1099511627776) (hn : Ls.length ≤ 1000) :
    Calls Tryd.prog 50 #[.slice (some ⟨gp, 0, none⟩) Ls.length Ls.length] w fun e w' => ∃ v, e = .returned v ∧ Kd.R kQ 45 w' w.heap.size (fun _ => True) v (catS Ls) ∧ Below w.heap.size w w' := by
  have HB := Lib.hid hb
  have HR := Lib.hid hr
  have HN := Lib.hid hn
  have HL := Lib.hid hl
  clear hb hr
  go_enter Tryd.func50, Tryd.ntmps50
  go_wp2
  go_loopw [11, 3] (fun s11 s3 wr => ∃ kk : Nat, kk ≤ Ls.length ∧ s11 = .int .i64 (kk : Int) ∧ s3 = .int .i64 (sumS (Ls.take kk) : Nat) ∧ Hid (Below w.heap.size w wr)) (fun s11 _ _ => Ls.length - cntV s11)
  case atStart => exact ⟨0, Nat.zero_le _, rfl, rfl, Lib.hid (Below.refl _ w)⟩
  case round =>
    obtain ⟨kk, hkk, rfl, rfl, BW⟩ := hrel
    by_cases hlt : kk < Ls.length
    · have d1 : decide ((kk : Int) < (Ls.length : Int)) = true := by simp; omega
      have b1 : (0 : Int) ≤ (kk : Int) := by omega
      have b2 : (kk : Int) < (Ls.length : Int) := by omega
      obtain ⟨L, hL⟩ : ∃ L, Ls[kk]? = some L := ⟨_, List.getElem?_eq_getElem hlt⟩
      obtain ⟨A, c, ys⟩ := L
      have y0 : wr.cell? ⟨gp, kk, none⟩ = some (.slice A ys.length c) := by
        rw [blk_cell (blk_below HB.out BW.out)]
        simp [hL, encS]
      have TS := Lib.hid (takeS hL)
      have SS := Lib.hid (show sumS (Ls.take (kk + 1)) = sumS (Ls.take kk) + ys.length by rw [takeS hL, sumS_snoc])
      have M := Lib.hid (Nat.le_trans (sumS_take Ls (kk + 1)) hl)
      have d2 : decide ((sumS (Ls.take kk) : Int) + (ys.length : Int) < 0) = false := by simp; omega
      have W1 : wrap64 ((sumS (Ls.take kk) : Int) + (ys.length : Int)) = ((sumS (Ls.take kk) : Int) + (ys.length : Int)) := wrap_id (by omega) (by have := SS.out; have := M.out; omega)
      clear hL
      go_wp2
      go_roundw
      case rel => exact ⟨kk + 1, by omega, by go_num, by rw [SS.out]; push_cast; go_num, BW⟩
      case measure =>
        simp only [cntV]
        omega
    · have d1 : decide ((kk : Int) < (Ls.length : Int)) = false := by simp; omega
      obtain rfl : kk = Ls.length := by omega
      rw [List.take_length]
      go_wp2_with fail
      (go_at_call 67; refine (growQ (sumS Ls) _ HL.out).mono ?_; rintro e w5 ⟨v5, rfl, hr5, hb5⟩)
      have B5 := Lib.hid (below_step BW.out hb5)
      have R5 := Lib.hid (Kd.R_lower hr5 BW.out.size)
      clear hr5 hb5 BW
      go_wp2
      go_loopw [27, 6] (fun s27 s6 wr => ∃ (kk : Nat) (v : Value), kk ≤ Ls.length ∧ s27 = .int .i64 (kk : Int) ∧ v = s6 ∧ Hid (Below w.heap.size w wr) ∧ Hid (Kd.R kQ 45 wr w.heap.size (fun _ => True) v (catS (Ls.take kk)))) (fun s27 _ _ => Ls.length - cntV s27)
      case atStart => exact ⟨0, _, Nat.zero_le _, rfl, rfl, B5, R5⟩
      case round =>
        obtain ⟨kk, v, hkk, rfl, ev, BW, RW⟩ := hrel
        subst ev
        by_cases hlt : kk < Ls.length
        · have d1 : decide ((kk : Int) < (Ls.length : Int)) = true := by simp; omega
          have b1 : (0 : Int) ≤ (kk : Int) := by omega
          have b2 : (kk : Int) < (Ls.length : Int) := by omega
          obtain ⟨L, hL⟩ : ∃ L, Ls[kk]? = some L := ⟨_, List.getElem?_eq_getElem hlt⟩
          have hrL := HR.out L (List.mem_of_getElem? hL)
          obtain ⟨A, c, ys⟩ := L
          have y0 : wr.cell? ⟨gp, kk, none⟩ = some (.slice A ys.length c) := by
            rw [blk_cell (blk_below HB.out BW.out)]
            simp [hL, encS]
          have CY := Lib.hid (show Kd.C kQ wr A ys.length ys from Kd.C_below hrL BW.out)
          have TS := Lib.hid (show catS (Ls.take (kk + 1)) = catS (Ls.take kk) ++ ys by rw [takeS hL, catS_snoc])
          have SS := Lib.hid (show sumS (Ls.take (kk + 1)) = sumS (Ls.take kk) + ys.length by rw [takeS hL, sumS_snoc])
          have M := Lib.hid (Nat.le_trans (sumS_take Ls (kk + 1)) hl)
          have LB := Lib.hid (show ((catS (Ls.take kk)).length + ys.length) * 72 ≤ 140737488355328 by rw [catS_len]; have := SS.out; have := M.out; omega)
          clear hL hrL
          go_wp2_with (first
            | ((with_reducible refine gate_dst (N := 33) rfl ?_)
               refine Kd.R_append_rows kQ w.heap.size ?hg (.tmp 31) (.tmp 32) 23 45 (.agg #[.int .i64 0, .int .i64 0, .pointer none, .slice none 0 0, .slice none 0 0]) 72 rfl Tryd.underlying23 infoC45 rfl (by decide) (by decide) v (catS (Ls.take kk)) ys A ys.length c (fun _ => True) (fun k => some k ≠ v.ownBlock) rfl rfl RW.out CY.out (fun x cs h => h) (fun _ h => ⟨trivial, h⟩) (fun _ _ => trivial) BW.out (BW.out.size) LB.out ?_
               (case hg => rfl)
               intro v2 w2 HO HB hg hat; have HO2 := Lib.hid HO; have HB2 := Lib.hid HB; clear HO HB hg hat))
          go_roundw
          case rel => exact ⟨kk + 1, _, by omega, by go_num, rfl, HB2, Lib.hid (by rw [TS.out]; exact HO2.out)⟩
          case measure =>
            simp only [cntV]
            omega
        · have d1 : decide ((kk : Int) < (Ls.length : Int)) = false := by simp; omega
          obtain rfl : kk = Ls.length := by omega
          rw [List.take_length] at RW
          go_wp2
          go_ret
          exact ⟨_, rfl, RW.out, BW.out⟩
end Go.Proofs.YtkkjebjlgcggcaaDoor.Seg
/- Sheets: the walk of After. Conditions: at most 2^40 segments in all. -/
namespace Go.Proofs.YtkkjebjlgcggcaaDoor.Seg
open Go.RowKit Go.Proofs.YtkkjebjlgcggcaaDoorPl Go.Maps Go.Proofs.YtkkjebjlgcggcaaDoorW.PrintWords Go.Proofs.YtkkjebjlgcggcaaDoorW.PrintLast Go.Proofs.YtkkjebjlgcggcaaDoorW.PrintMore Go.Proofs.YtkkjebjlgcggcaaDoor.Rope Go.Proofs.YtkkjebjlgcggcaaDoor.PSheetForks Go.Proofs.YtkkjebjlgcggcaaDoor.Pure
set_option linter.unusedVariables false
set_option linter.unusedSimpArgs false
/-- A sheet comes back, and a word. -/
def RetAf (f b : Bool) (ys : List G) (w : World) (e : Ending) (w' : World) : Prop := ∃ A c yss, e = .returned (.tuple #[.agg #[.bool f, .slice A yss.length c], .bool b]) ∧ Sh w' A c yss ys ∧ Below w.heap.size w w'
abbrev QAf (V : World) (g : Nat) (f : Bool) (A : Option Addr) (n c : Nat) (w' : World) : Prop := w'.cell? ⟨g, 0, none⟩ = some (.bool f) ∧ w'.cell? ⟨g, 1, none⟩ = some (.slice A n c) ∧ Below V.heap.size V w'
section
variable {V W W' : World} {g : Nat} {f : Bool} {A : Option Addr} {n c : Nat}
theorem QAf.b (h : QAf V g f A n c W) : Below V.heap.size V W := h.2.2
theorem QAf.next (h : QAf V g f A n c W) (hb : Below W.heap.size W W') : QAf V g f A n c W' := ⟨pw_cell_below hb h.1, pw_cell_below hb h.2.1, below_step h.2.2 hb⟩
end
theorem rows3 {w : World} {A1 A2 A3 : Option Addr} {c1 c2 c3 : Nat} {us ys vs : List (List Value)} (h1 : Kd.C kQ w A1 us.length us) (h2 : Kd.C kQ w A2 ys.length ys) (h3 : Kd.C kQ w A3 vs.length vs) : ∀ L ∈ ([(A1, c1, us), (A2, c2, ys), (A3, c3, vs)] : List RowS), Kd.C kQ w L.1 L.2.2.length L.2.2 := fun L hL => by
  rcases List.mem_cons.1 hL with rfl | hL
  · exact h1
  · rcases List.mem_cons.1 hL with rfl | hL
    · exact h2
    · rw [List.mem_singleton.1 hL]; exact h3
theorem Sgs.append {w : World} {aa bs : List (List Value)} {xs ys : List G} (h : Sgs w aa xs) (h2 : Sgs w bs ys) : Sgs w (aa ++ bs) (xs ++ ys) := by
  refine ⟨by rw [List.length_append, List.length_append, h.1, h2.1], fun j cs x h3 h4 => ?_⟩
  rcases Nat.lt_or_ge j aa.length with hj | hj
  · rw [List.getElem?_append_left hj] at h3
    rw [List.getElem?_append_left (by rw [h.1]; exact hj)] at h4
    exact h.2 j cs x h3 h4
  · rw [List.getElem?_append_right hj] at h3
    rw [List.getElem?_append_right (by rw [h.1]; exact hj), h.1] at h4
    exact h2.2 _ cs x h3 h4
theorem Sgs.take {w : World} {aa : List (List Value)} {xs : List G} (h : Sgs w aa xs) (k : Nat) : Sgs w (aa.take k) (xs.take k) := by
  refine ⟨by rw [List.length_take, List.length_take, h.1], fun j cs x h3 h4 => ?_⟩
  rw [List.getElem?_take] at h3 h4
  split at h3
  · rename_i hj
    rw [if_pos hj] at h4
    exact h.2 j cs x h3 h4
  · cases h3
theorem Sgs.drop {w : World} {aa : List (List Value)} {xs : List G} (h : Sgs w aa xs) (k : Nat) : Sgs w (aa.drop k) (xs.drop k) := by
  refine ⟨by rw [List.length_drop, List.length_drop, h.1], fun j cs x h3 h4 => ?_⟩
  rw [List.getElem?_drop] at h3 h4
  exact h.2 _ cs x h3 h4
set_option maxRecDepth 1000000 in
set_option maxHeartbeats 4000000 in
theorem after_miss (f : Bool) (A : Option Addr) (c : Nat) (xss : List (List Value)) (xs : List G) (id : Int) (A2 : Option Addr) (n2 c2 : Nat) (w : World) (h : Sh w A c xss xs) (hl : xss.length ≤ 1099511627776) (hm : plc xs id xs.length 0 = -1) :
    Calls Tryd.prog 27 #[.agg #[.bool f, .slice A xss.length c], .int .i64 id, .slice A2 n2 c2] w (RetAf f false xs w) := by
  have HS := Lib.hid h
  have PL := Lib.hid hm
  clear h hm
  go_enter Tryd.func27, Tryd.ntmps27
  go_upto_region 1 with (first | ((with_reducible refine gate_dst (N := 3) rfl ?_); refine box_event ?hg (N := 3) ?hd (cs := #[.bool f, .slice A xss.length c]) (t := 25) ?hr ?_; (case hd => rfl); (case hg => rfl); (case hr => first | (go_simp; done) | (go_simp; rfl)); intro gX hgX wX hxX hbX; have BX := Lib.hid hbX; have XX := Lib.hid hxX; have GXH := Lib.hid (show w.heap.size ≤ gX by rw [hgX]; exact Nat.le_refl _); clear hgX hxX hbX) | ((with_reducible refine gate_dst (N := 6) rfl ?_); refine box_event ?hg (N := 6) ?hd (cs := #[.bool false, .slice none 0 0]) (t := 25) ?hr ?_; (case hd => rfl); (case hg => rfl); (case hr => first | (go_simp; done) | (go_simp; rfl)); intro gR hgR wR hxR hbR; have XR := Lib.hid hxR; have NE := Lib.hid (show gX ≠ gR by rw [hgR]; exact Nat.ne_of_lt (blk_lt XX.out)); have BR := Lib.hid (below_step BX.out hbR); have GR_ := Lib.hid (show w.heap.size ≤ gR by rw [hgR]; exact BX.out.size); have XX3 := Lib.hid (blk_below XX.out hbR); clear hgR hxR hbR))
  have b0 := (blk_cell XX3.out 0).trans rfl
  have b1 := (blk_cell XX3.out 1).trans rfl
  go_wp2_with fail
  (go_at_call 37; refine (place_calls f A c xss xs id _ (HS.out.below BR.out) hl).mono ?_; rw [PL.out]; rintro e w8 ⟨rfl, hb8⟩)
  have B8 := Lib.hid (below_step BR.out hb8)
  have X8 := Lib.hid (blk_below XX3.out hb8)
  have Y8 := Lib.hid (blk_below XR.out hb8)
  clear hb8 XX XR XX3 BX BR b0 b1
  have S8 := Lib.hid (HS.out.below B8.out)
  have b0 := (blk_cell X8.out 0).trans rfl
  have b1 := (blk_cell X8.out 1).trans rfl
  have r0 := (blk_cell Y8.out 0).trans rfl
  have r1 := (blk_cell Y8.out 1).trans rfl
  have f0 := blk_frozen Y8.out 0
  have f1 := blk_frozen Y8.out 1
  go_wp2
  refine bodyPost_ret (results_ct rfl _ _ gR 25 #[.bool f, .slice A xss.length c] (0, 0) _ rfl (by simpa using blk_set (blk_set Y8.out 0 (.bool f)) 1 (.slice A xss.length c)) Tryd.underlying25 rfl (by kernel_rfl)) rfl ?_
  exact ⟨A, c, _, rfl, (S8.out.set Y8.out 0 _).set (blk_set Y8.out 0 _) 1 _, below_set (below_set B8.out GR_.out) GR_.out⟩
set_option maxRecDepth 1000000 in
set_option maxHeartbeats 8000000 in
theorem after_hit (f : Bool) (A : Option Addr) (c : Nat) (xss : List (List Value)) (xs : List G) (id : Int) (A2 : Option Addr) (c2 : Nat) (yss : List (List Value)) (ys : List G) (kk : Nat) (x : G) (w : World) (h : Sh w A c xss xs) (hl : xss.length ≤ 1099511627776) (hm : plc xs id xs.length 0 = (kk : Int)) (hx : xs[kk]? = some x) (hy : Kd.C kQ w A2 yss.length yss) (hys : Sgs w yss ys) (hl2 : xss.length + (yss.length + xss.length) ≤ 1099511627776)
    (hwf : ∀ x ∈ xs.take (kk + 1) ++ (ys ++ (xs.drop (kk + 1) ++ [])), (Lit.int .i64 x.f0).wf = true) (zs : List G) (hz : zs = xs.take (kk + 1) ++ (ys ++ (xs.drop (kk + 1) ++ []))) (tw : Bool) (rs : List G) (hw : twB zs = tw ∧ (tw = true → rs = xs) ∧ (tw = false → rs = zs)) :
    Calls Tryd.prog 27 #[.agg #[.bool f, .slice A xss.length c], .int .i64 id, .slice A2 yss.length c2] w (RetAf f (!tw) rs w) := by
  have HS := Lib.hid h
  have PL := Lib.hid hm
  have CYS := Lib.hid hy
  have SYS := Lib.hid hys
  have HWF := Lib.hid hwf
  have HZZ := Lib.hid hz
  have hlt : kk < xss.length := by have := (List.getElem?_eq_some_iff.1 hx).1; have := h.len; omega
  have TW := Lib.hid hw
  clear h hm hx hy hys hwf hz hw
  go_enter Tryd.func27, Tryd.ntmps27
  go_upto_region 1 with (first | ((with_reducible refine gate_dst (N := 3) rfl ?_); refine box_event ?hg (N := 3) ?hd (cs := #[.bool f, .slice A xss.length c]) (t := 25) ?hr ?_; (case hd => rfl); (case hg => rfl); (case hr => first | (go_simp; done) | (go_simp; rfl)); intro gX hgX wX hxX hbX; have BX := Lib.hid hbX; have XX := Lib.hid hxX; have GXH := Lib.hid (show w.heap.size ≤ gX by rw [hgX]; exact Nat.le_refl _); clear hgX hxX hbX) | ((with_reducible refine gate_dst (N := 6) rfl ?_); refine box_event ?hg (N := 6) ?hd (cs := #[.bool false, .slice none 0 0]) (t := 25) ?hr ?_; (case hd => rfl); (case hg => rfl); (case hr => first | (go_simp; done) | (go_simp; rfl)); intro gR hgR wR hxR hbR; have XR := Lib.hid hxR; have NE := Lib.hid (show gX ≠ gR by rw [hgR]; exact Nat.ne_of_lt (blk_lt XX.out)); have BR := Lib.hid (below_step BX.out hbR); have GR_ := Lib.hid (show w.heap.size ≤ gR by rw [hgR]; exact BX.out.size); have XX3 := Lib.hid (blk_below XX.out hbR); clear hgR hxR hbR))
  have b0 := (blk_cell XX3.out 0).trans rfl
  have b1 := (blk_cell XX3.out 1).trans rfl
  go_wp2_with fail
  (go_at_call 37; refine (place_calls f A c xss xs id _ (HS.out.below BR.out) hl).mono ?_; rw [PL.out]; rintro e w8 ⟨rfl, hb8⟩)
  have B8 := Lib.hid (below_step BR.out hb8)
  have X8 := Lib.hid (blk_below XX3.out hb8)
  have Y8 := Lib.hid (blk_below XR.out hb8)
  clear hb8 XX XR XX3 BX BR b0 b1
  have W1 : IntKind.i64.wrap ((kk : Int) + 1) = ((kk : Int) + 1) := by rw [IntKind.wrap_i64]; omega
  have d1 : decide ((kk : Int) < 0) = false := by simp
  obtain ⟨i, hi, hs⟩ : ∃ i, Tryd.prog.info? 45 = some i ∧ i.size = 5 := by
    obtain ⟨i, h1, h2⟩ := Option.map_eq_some_iff.1 infoC45
    simp only [Prod.mk.injEq] at h2
    exact ⟨i, h1, h2.2.1⟩
  have S8 := Lib.hid (HS.out.below B8.out)
  have SY8 := Lib.hid (SYS.out.below B8.out)
  have CY8 := Lib.hid (Kd.C_below CYS.out B8.out)
  obtain ⟨us, hus⟩ : ∃ us, us = xss.take (kk + 1) := ⟨_, rfl⟩
  obtain ⟨vs, hvs⟩ : ∃ vs, vs = xss.drop (kk + 1) := ⟨_, rfl⟩
  obtain ⟨A', c', hA'⟩ : ∃ A' c', (∀ W, (Instr.slice 23 (.slice A xss.length c) (some (.int .i64 ((kk : Int) + 1))) none none).run Tryd.prog W = .ok (.slice A' vs.length c') W) ∧ Kd.C kQ w8 A' vs.length vs := by
    refine ⟨if c = kk + 1 then A else A.map (·.add ((kk + 1) * 5)), c - (kk + 1), fun W => ?_, ?_⟩
    · have := cut_from (P := Tryd.prog) 23 45 .i64 Tryd.underlying23 hi 5 hs A xss.length c ((kk + 1 : Nat) : Int) (by omega) (by omega) W
      rw [Int.toNat_natCast] at this
      rw [hvs, List.length_drop, ← this]
      rfl
    · rw [hvs]
      exact Kd.C_drop S8.out.row (by omega) S8.out.cap
  obtain ⟨hsd, hcd⟩ := hA'
  have hst : ∀ W, (Instr.slice 23 (.slice A xss.length c) none (some (.int .i64 ((kk : Int) + 1))) none).run Tryd.prog W = .ok (.slice A us.length c) W := fun W => by
    have := cut_to (P := Tryd.prog) 23 45 .i64 Tryd.underlying23 hi A xss.length c ((kk + 1 : Nat) : Int) (by omega) (by have := S8.out.cap; omega) S8.out.cap W
    rw [Int.toNat_natCast] at this
    rw [hus, List.length_take, Nat.min_eq_left (by omega), ← this]
    rfl
  have CU := Lib.hid (show Kd.C kQ w8 A us.length us by rw [hus]; exact Kd.C_take S8.out.row (m := kk + 1) (by omega))
  have CD := Lib.hid hcd
  have ZS := Lib.hid (show Sgs w8 (us ++ (yss ++ (vs ++ []))) (xs.take (kk + 1) ++ (ys ++ (xs.drop (kk + 1) ++ []))) by rw [hus, hvs]; exact (S8.out.sgs.take _).append (SY8.out.append ((S8.out.sgs.drop _).append ⟨rfl, fun j cs x h => by simp at h⟩)))
  have LS : Hid (us.length + (yss.length + (vs.length + 0)) ≤ 1099511627776) := Lib.hid (by have e1 : us.length ≤ xss.length := (by rw [hus, List.length_take]; omega); have e2 : vs.length ≤ xss.length := (by rw [hvs, List.length_drop]; omega); omega)
  clear hi hs hus hvs hcd S8 SY8
  have QS := Lib.hid (show QAf w8 gX f A xss.length c w8 from ⟨blk_cell X8.out 0, blk_cell X8.out 1, Below.refl _ _⟩)
  go_upto_region 4 with (fail)
  go_region_held3 (fun w' => QAf w8 gX f A xss.length c w')
    (first | (with_reducible assumption) | (with_reducible exact HS9.out) | (with_reducible exact QAf.next HS9.out (below_alloc (Below.refl _ _) _)) | exact QS.out.next (by (with_reducible repeat (first | exact Below.refl _ _ | apply pw_below_drewN | apply Below.drew | apply below_alloc))))
    (first
      | (go_at_call 50; (refine (concatQ _ [(A, c, us), (A2, c2, yss), (A', c', vs)] _ ?hb ?hr ?hl2 (by (show (3 : Nat) ≤ 1000); decide)).mono ?_); (case hb => first | exact blk_newS rfl | exact blk_drew (blk_newS rfl)); (case hr => exact rows3 (Kd.C_below CU.out (QAf.b (V := w8) (g := gX) (f := f) (A := A) (n := xss.length) (c := c) (by assumption))) (Kd.C_below CY8.out (QAf.b (V := w8) (g := gX) (f := f) (A := A) (n := xss.length) (c := c) (by assumption))) (Kd.C_below CD.out (QAf.b (V := w8) (g := gX) (f := f) (A := A) (n := xss.length) (c := c) (by assumption)))); (case hl2 => exact LS.out); rintro e w9 ⟨v9, rfl, hr9, hb9⟩; have HS9 := Lib.hid (QAf.next (V := w8) (g := gX) (f := f) (A := A) (n := xss.length) (c := c) (by assumption) hb9); have R9 := Lib.hid (Kd.R_lower hr9 (Nat.le_trans B8.out.size (QAf.b (V := w8) (g := gX) (f := f) (A := A) (n := xss.length) (c := c) (by assumption)).size)); clear hr9 hb9))
  all_goals
    have B9 := Lib.hid (below_step B8.out (QAf.b HS9.out))
    have X9 := Lib.hid (blk_below X8.out (QAf.b HS9.out))
    have Y9 := Lib.hid (blk_below Y8.out (QAf.b HS9.out))
    have Z9 := Lib.hid (ZS.out.below (QAf.b HS9.out))
    have S9 := Lib.hid (HS.out.below B9.out)
    rw [show catS ([(A, c, us), (A2, c2, yss), (A', c', vs)] : List RowS) = us ++ (yss ++ (vs ++ [])) from rfl] at R9
    have LZ : (us ++ (yss ++ (vs ++ []))).length ≤ 1099511627776 := by simpa using LS.out
    generalize us ++ (yss ++ (vs ++ [])) = zss at R9 Z9 LZ
    rw [← HZZ.out] at Z9 HWF
    obtain ⟨A9, c9, e9⟩ := Kd.R_slice R9.out
    subst e9
    have C9 := Lib.hid (Kd.R_reads' R9.out)
    clear HS9 QS CU CD ZS X8 Y8 B8 CY8 LS HS
    go_wp2_with fail
    (go_at_call 35; refine (twice_calls A9 c9 zss zs _ C9.out.2.2 Z9.out LZ HWF.out).mono ?_; rw [TW.out.1]; rintro e w10 ⟨rfl, hb10⟩)
    have B10 := Lib.hid (below_step B9.out hb10)
    have X10 := Lib.hid (blk_below X9.out hb10)
    have Y10 := Lib.hid (blk_below Y9.out hb10)
    have Z10 := Lib.hid (Z9.out.below hb10)
    have S10 := Lib.hid (S9.out.below hb10)
    have R10 := Lib.hid (Kd.R_below R9.out hb10)
    clear hb10 X9 Y9 Z9 S9 R9 B9 C9
    cases tw with
    | true =>
      obtain rfl : rs = xs := TW.out.2.1 rfl
      have b0 := (blk_cell X10.out 0).trans rfl
      have b1 := (blk_cell X10.out 1).trans rfl
      have r0 := (blk_cell Y10.out 0).trans rfl
      have r1 := (blk_cell Y10.out 1).trans rfl
      have f0 := blk_frozen Y10.out 0
      have f1 := blk_frozen Y10.out 1
      go_wp2
      refine bodyPost_ret (results_ct rfl _ _ gR 25 #[.bool f, .slice A xss.length c] (0, 0) _ rfl (by simpa using blk_set (blk_set Y10.out 0 (.bool f)) 1 (.slice A xss.length c)) Tryd.underlying25 rfl (by kernel_rfl)) rfl ?_
      exact ⟨A, c, _, rfl, (S10.out.set Y10.out 0 _).set (blk_set Y10.out 0 _) 1 _, below_set (below_set B10.out GR_.out) GR_.out⟩
    | false =>
      obtain rfl : rs = zs := TW.out.2.2 rfl
      have b1 := (blk_cell X10.out 1).trans rfl
      have f1 := blk_frozen X10.out 1
      go_upto_region 8 with (fail)
      refine gen2 (φ := fun W => Code.wp _ _ _ _ W) (P := fun W => Below w.heap.size w W ∧ W.heap[gX]? = some (.cells #[.bool f, .slice A9 zss.length c9] 25 (0, 0)) ∧ W.heap[gR]? = some (.cells #[.bool false, .slice none 0 0] 25 (0, 0)) ∧ Sh W A9 c9 zss rs) ⟨below_set B10.out GXH.out, blk_put X10.out 1 _ rfl, (Below.heap_setCell _ ⟨gX, 1, none⟩ _ gR NE.out.symm).trans Y10.out, (Sh.of R10.out Z10.out).set X10.out 1 _⟩ ?_
      clear b1 f1 X10 Y10 Z10 S10 R10 B10
      rintro U ⟨hbU, hXU, hRU, hsU⟩
      have BU := Lib.hid hbU
      have XU := Lib.hid hXU
      have YU := Lib.hid hRU
      have SU := Lib.hid hsU
      clear hbU hXU hRU hsU
      have b0 := (blk_cell XU.out 0).trans rfl
      have b1 := (blk_cell XU.out 1).trans rfl
      have r0 := (blk_cell YU.out 0).trans rfl
      have r1 := (blk_cell YU.out 1).trans rfl
      have f0 := blk_frozen YU.out 0
      have f1 := blk_frozen YU.out 1
      go_wp2
      refine bodyPost_ret (results_ct rfl _ _ gR 25 #[.bool f, .slice A9 zss.length c9] (0, 0) _ rfl (by simpa using blk_set (blk_set YU.out 0 (.bool f)) 1 (.slice A9 zss.length c9)) Tryd.underlying25 rfl (by kernel_rfl)) rfl ?_
      exact ⟨A9, c9, _, rfl, (SU.out.set YU.out 0 _).set (blk_set YU.out 0 _) 1 _, below_set (below_set BU.out GR_.out) GR_.out⟩

end Go.Proofs.YtkkjebjlgcggcaaDoor.Seg
/- What the document's After answers, in plain Lean; small laws for the walk of SheetAfter. Conditions: lists of at most 1000 segments. -/
namespace Go.Proofs.YtkkjebjlgcggcaaDoor.Seg
open Go.RowKit Go.Proofs.YtkkjebjlgcggcaaDoorPl Go.Maps Go.Proofs.YtkkjebjlgcggcaaDoorW.PrintWords Go.Proofs.YtkkjebjlgcggcaaDoorW.PrintLast Go.Proofs.YtkkjebjlgcggcaaDoorW.PrintMore Go.Proofs.YtkkjebjlgcggcaaDoor.Rope Go.Proofs.YtkkjebjlgcggcaaDoor.PSheetForks Go.Proofs.YtkkjebjlgcggcaaDoor.Pure
set_option linter.unusedVariables false
set_option linter.unusedSimpArgs false
theorem C_cells {α : Type} {d : Kd α} {w w1 : World} {A : Option Addr} {n : Nat} {xs : List α} (hK : ∀ x cs, d.K w x cs → d.K w1 x cs) (h : Kd.C d w A n xs) (hm : ∀ a v, w.cell? a = some v → w1.cell? a = some v) : Kd.C d w1 A n xs := by
  refine ⟨h.1, h.2.1, fun hn => ?_⟩
  obtain ⟨ad, e, hc⟩ := h.2.2 hn
  refine ⟨ad, e, fun j p hj => ?_⟩
  obtain ⟨cs, hl, hk, hcell⟩ := hc j p hj
  exact ⟨cs, hl, hK _ _ hk, fun i u hu => hm _ _ (hcell i u hu)⟩
theorem cell_move {w w1 : World} (h : ∀ k, k < w.heap.size → w1.heap[k]? = w.heap[k]?) (a : Addr) (v : Value) (hc : w.cell? a = some v) : w1.cell? a = some v := by
  rcases Nat.lt_or_ge a.block w.heap.size with h1 | h1
  · rw [← hc]
    unfold World.cell?
    rw [h _ h1]
  · unfold World.cell? at hc
    rw [Array.getElem?_eq_none h1] at hc
    simp at hc
theorem V_of {w : World} {base : Nat} {A : Option Addr} {c : Nat} {xs : List G} (h : Kd.C kG w A xs.length xs) (hc : xs.length ≤ c) : Kd.V kG 40 w base (fun _ => True) (.slice A xs.length c) xs := by
  refine ⟨A, c, rfl, hc, fun W' hW => ?_⟩
  have hm := cell_move (w := w) (w1 := W') (fun k hk => hW k trivial hk)
  refine C_cells (fun x cs hK => ?_) h hm
  obtain ⟨A3, c3, A4, c4, rfl, l3, g3, l4, g4⟩ := k40_open hK
  exact k40_mk W' x l3 (C_cells (fun x cs hK => by obtain rfl := k83_open hK; exact k83_mk W' x) g3 hm) l4 (C_cells (fun x cs hK => by obtain rfl := k86_open hK; exact k86_mk W' x) g4 hm)
theorem shLoad_good (f : Bool) (A : Option Addr) (c : Nat) (xs : List G) (w : World) (hT : Tabs w) (hr : Kd.C kG w A xs.length xs) (hz : ∀ x ∈ xs, Sz x) (hl : xs.length ≤ 1099511627776) (hwf : ∀ x ∈ xs, (Lit.int .i64 x.f0).wf = true) (hok : okS xs) :
    Calls Tryd.prog 7 #[.bool f, .slice A xs.length c] w fun e w' => ∃ A c xss, e = .returned (.tuple #[.agg #[.bool f, .slice A xss.length c], .bool true]) ∧ Sh w' A c xss xs ∧ Below w.heap.size w w' := by
  refine (shLoad_calls f A c xs w hT hr hz hl hwf).mono ?_
  rintro e w' (⟨_, A', c', xss, rfl, hs, hb⟩ | ⟨hn, _⟩)
  · exact ⟨A', c', xss, by rw [hs.len], hs, hb⟩
  · exact absurd hok hn
theorem two_calls (w : World) : Calls Tryd.prog 8 #[] w fun e w' => ∃ A c, e = .returned (.slice A [t1, t2].length c) ∧ Kd.C kG w' A [t1, t2].length [t1, t2] ∧ Below w.heap.size w w' := by
  refine (chancellaw06_two.calls [t1, t2] w rfl).mono ?_
  rintro e w' ⟨v, rfl, hs, hb⟩
  obtain ⟨A, c, e, hc, hC⟩ := Kd.R_reads (Kd.S_R hs)
  subst e
  exact ⟨A, c, rfl, hC, hb⟩
theorem two_wf : ∀ x ∈ [t1, t2], (Lit.int .i64 x.f0).wf = true := fun x hx => by
  rcases List.mem_cons.1 hx with rfl | hx
  · rfl
  · rw [List.mem_singleton.1 hx]; rfl
/-- A row of ints, just built. -/
theorem C_ints {W : World} {g : Nat} {l : List Int} (hl : l.length ≤ 9223372036854775807) (h : W.heap[g]? = some (.cells (l.map (Value.int .i64)).toArray 3 (0, 0))) : Kd.C (Kd.int .i64) W (some ⟨g, 0, none⟩) l.length l := by
  refine ⟨rfl, hl, fun _ => ⟨_, rfl, fun j p hj => ?_⟩⟩
  refine ⟨[.int .i64 p], rfl, rfl, fun i u hu => ?_⟩
  rw [add_plain]
  have e : (0 + j * (Kd.int .i64).sz + i) = j + i := by
    show 0 + j * 1 + i = j + i
    omega
  cases i with
  | succ i => simp at hu
  | zero =>
    simp only [List.getElem?_cons_zero, Option.some.injEq] at hu
    subst hu
    rw [blk_cell h]
    have e2 : j * (Kd.int .i64).sz = j := Nat.mul_one j
    simp only [Nat.zero_add, Nat.add_zero, e2]
    simp [hj]
/-- A row of one segment, just built. -/
theorem C_oneQ {W : World} {g : Nat} {v0 v1 v2 v3 v4 : Value} (h1 : ∀ u ∈ [v0, v1, v2, v3, v4], u.oneCell' = true) (h : W.heap[g]? = some (.cells #[v0, v1, v2, v3, v4] 45 (0, 0))) : Kd.C kQ W (some ⟨g, 0, none⟩) [[v0, v1, v2, v3, v4]].length [[v0, v1, v2, v3, v4]] := by
  refine ⟨rfl, by (show (1 : Nat) ≤ 9223372036854775807); decide, fun _ => ⟨_, rfl, fun j p hj => ?_⟩⟩
  cases j with
  | succ j => simp at hj
  | zero =>
    simp only [List.getElem?_cons_zero, Option.some.injEq] at hj
    subst hj
    refine ⟨_, rfl, ⟨rfl, rfl, h1⟩, fun i u hu => ?_⟩
    rw [add_plain]
    have e : (0 * kQ.sz + i) = i := by omega
    rw [e, blk_cell h i]
    simpa using hu
theorem plc_none (xs : List G) (d : Int) : ∀ (e j : Nat), xs.length - j = e → j ≤ xs.length → (plc xs d e j = -1 ↔ ∀ x ∈ xs.drop j, x.f0 ≠ d)
  | 0, j, he, hj => by
    rw [List.drop_of_length_le (by omega)]
    simp [plc]
  | e + 1, j, he, hj => by
    obtain ⟨x, hx⟩ : ∃ x, xs[j]? = some x := ⟨_, List.getElem?_eq_getElem (by omega)⟩
    have ep : plc xs d (e + 1) j = if x.f0 = d then (j : Int) else plc xs d e (j + 1) := by simp only [plc, hx]
    rw [ep, drop_atQ hx]
    by_cases h : x.f0 = d
    · rw [if_pos h]
      constructor
      · intro h2; omega
      · intro h2; exact absurd h (h2 x (by simp))
    · rw [if_neg h, plc_none xs d e (j + 1) (by omega) (by omega)]
      constructor
      · intro h2 y hy
        rcases List.mem_cons.1 hy with rfl | hy
        · exact h
        · exact h2 y hy
      · intro h2 y hy
        exact h2 y (by simp [hy])
/-- What the document asks of each that is put in. -/
def good (xs ys : List G) (j : Nat) : Prop := ∀ (i : Nat) y, j ≤ i → ys[i]? = some y → plc xs y.f0 xs.length 0 = -1 ∧ plc ys y.f0 ys.length 0 = (i : Int)
open Classical in
/-- The Ids are all apart, just where the document puts them in. -/
theorem good_iff (xs ys : List G) (hn : (xs.map (·.f0)).Nodup) (k : Nat) : good xs ys 0 ↔ ((xs.take k ++ (ys ++ (xs.drop k ++ [])) : List G).map (·.f0)).Nodup := by
  have hp : ((xs.take k ++ (ys ++ (xs.drop k ++ [])) : List G).map (·.f0)).Perm ((ys ++ xs : List G).map (·.f0)) := by
    rw [List.append_nil]
    have h := List.perm_append_comm_assoc (xs.take k) ys (xs.drop k)
    rw [List.take_append_drop] at h
    exact h.map _
  rw [hp.nodup_iff, List.map_append, List.nodup_append]
  have hmem : ∀ (j : Nat) y, ys[j]? = some y → (plc xs y.f0 xs.length 0 = -1 ↔ y.f0 ∉ xs.map (·.f0)) := fun j y hj => by
    rw [plc_none xs y.f0 xs.length 0 rfl (Nat.zero_le _), List.drop_zero]
    constructor
    · intro h hm
      obtain ⟨z, hz, e⟩ := List.mem_map.1 hm
      exact h z hz e
    · intro h z hz e
      exact h (List.mem_map.2 ⟨z, hz, e⟩)
  constructor
  · intro h
    refine ⟨?_, hn, fun a ha b hb e => ?_⟩
    · have : ∀ j, j ≤ ys.length → ((ys.take j).map (·.f0)).Nodup := by
        intro j
        induction j with
        | zero => intro _; simp
        | succ j ih =>
          intro hj
          obtain ⟨y, hy⟩ : ∃ y, ys[j]? = some y := ⟨_, List.getElem?_eq_getElem (by omega)⟩
          exact nodup_more hy (ih (by omega)) ((plc_iff hy ys.length 0 (by omega) (by omega) (by simp)).1 (h j y (Nat.zero_le _) hy).2)
      have := this ys.length (Nat.le_refl _)
      rwa [List.take_length] at this
    · obtain ⟨y, hy, rfl⟩ := List.mem_map.1 ha
      obtain ⟨j, hj⟩ := List.getElem?_of_mem hy
      have h1 := (hmem j y hj).1 (h j y (Nat.zero_le _) hj).1
      exact h1 (by rw [e]; exact hb)
  · rintro ⟨h1, _, h2⟩ j y _ hj
    refine ⟨(hmem j y hj).2 (fun hm => h2 _ (List.mem_map.2 ⟨y, List.mem_of_getElem? hj, rfl⟩) _ hm rfl), ?_⟩
    exact (plc_iff hj ys.length 0 (by omega) (by omega) (by simp)).2 (fun hm => not_nodup hj hm h1)
end Go.Proofs.YtkkjebjlgcggcaaDoor.Seg
/- Sheets: the walks of Twin and Fork. Conditions: at most 2^40 segments. -/
namespace Go.Proofs.YtkkjebjlgcggcaaDoor.Seg
open Go.RowKit Go.Proofs.YtkkjebjlgcggcaaDoorPl Go.Maps Go.Proofs.YtkkjebjlgcggcaaDoorW.PrintWords Go.Proofs.YtkkjebjlgcggcaaDoorW.PrintLast Go.Proofs.YtkkjebjlgcggcaaDoorW.PrintMore Go.Proofs.YtkkjebjlgcggcaaDoor.Rope Go.Proofs.YtkkjebjlgcggcaaDoor.PSheetForks Go.Proofs.YtkkjebjlgcggcaaDoor.Pure
set_option linter.unusedVariables false
set_option linter.unusedSimpArgs false
/-- A twin. -/
def twG (i : Int) (x : G) : G := ⟨i, x.f1, x.f2, [], []⟩
/-- Twins of Ids one behind the other. -/
def forkG (first : Int) (xs : List G) : List G := xs.zipIdx.map fun q => twG (first + (q.2 : Int)) q.1
theorem twG_sp {w : World} {x : G} {p A : Option Addr} {c : Nat} {B : Option Addr} {d : Nat} (h : SP w x p A c B d) (i : Int) : SP w (twG i x) p none 0 none 0 := ⟨⟨⟨Nat.le_refl _, Nat.le_refl _, Kd.C_nil _ _, Kd.C_nil _ _⟩, fun _ e => (by cases e), fun _ e => (by cases e)⟩, h.rp⟩
set_option maxRecDepth 100000 in
set_option maxHeartbeats 1600000 in
theorem twin_calls (x : G) (p A : Option Addr) (c : Nat) (B : Option Addr) (d : Nat) (i : Int) (w : World) :
    Calls Tryd.prog 51 #[.agg (sgC x p A c B d), .int .i64 i] w fun e w' => e = .returned (.agg (sgC (twG i x) p none 0 none 0)) ∧ Below w.heap.size w w' := by
  go_enter Tryd.func51, Tryd.ntmps51
  go_wp2
  refine bodyPost_ret (results_cell_row rfl _ _ (w.heap.size + 1) 45 #[.int .i64 i, .int .i64 x.f1, .pointer p, .slice none 0 0, .slice none 0 0] (0, 0) _ rfl (blk_newS (by simp)) Tryd.underlying45 rfl (by kernel_rfl)) rfl ?_
  exact ⟨rfl, below_alloc (below_alloc (Below.refl _ _) _) _⟩
/-- The cells of a segment's box. -/
abbrev Q5c (gB : Nat) (x : G) (p A : Option Addr) (c : Nat) (B : Option Addr) (d : Nat) (w' : World) : Prop :=
  w'.cell? ⟨gB, 0, none⟩ = some (.int .i64 x.f0) ∧ w'.cell? ⟨gB, 1, none⟩ = some (.int .i64 x.f1) ∧ w'.cell? ⟨gB, 2, none⟩ = some (.pointer p) ∧ w'.cell? ⟨gB, 3, none⟩ = some (.slice A x.f3.length c) ∧ w'.cell? ⟨gB, 4, none⟩ = some (.slice B x.f4.length d)
theorem Q5c.of {gB : Nat} {x : G} {p A : Option Addr} {c : Nat} {B : Option Addr} {d : Nat} {W : World} (h : W.heap[gB]? = some (.cells (sgC x p A c B d) 45 (0, 0))) : Q5c gB x p A c B d W := ⟨blk_cell h 0, blk_cell h 1, blk_cell h 2, blk_cell h 3, blk_cell h 4⟩
theorem fork_get {first : Int} {xs : List G} {kk : Nat} {x : G} (h : xs[kk]? = some x) : (forkG first xs)[kk]? = some (twG (first + (kk : Int)) x) := by
  unfold forkG
  rw [List.getElem?_map, List.getElem?_zipIdx, h]
  simp
theorem fork_len (first : Int) (xs : List G) : (forkG first xs).length = xs.length := by simp [forkG]
theorem R_lt {α : Type} {d : Kd α} {e : Nat} {W : World} {base : Nat} {ok : Nat → Prop} {v : Value} {ys : List α} (h : d.R e W base ok v ys) {k : Nat} (hk : v.ownBlock = some k) : k < W.heap.size := by
  obtain ⟨i, o⟩ := Kd.R_own h
  obtain ⟨cs, hc⟩ := own_typed o k hk
  exact blk_lt hc
set_option maxRecDepth 1000000 in
set_option maxHeartbeats 8000000 in
theorem fork_calls (f g : Bool) (first : Int) (A : Option Addr) (c : Nat) (xss : List (List Value)) (xs : List G) (w : World) (h : Sh w A c xss xs) (hl : xss.length ≤ 1000) (hf0 : 0 ≤ first) (hf1 : first ≤ 1099511627776) :
    Calls Tryd.prog 30 #[.agg #[.bool f, .slice A xss.length c], .int .i64 first, .bool g] w fun e w' => ∃ A c yss, e = .returned (.agg #[.bool g, .slice A yss.length c]) ∧ Sh w' A c yss (forkG first xs) ∧ Below w.heap.size w w' := by
  have HS := Lib.hid h
  have LN := Lib.hid h.len
  clear h
  go_enter Tryd.func30, Tryd.ntmps30
  go_upto_region 1 with (first | ((with_reducible refine gate_dst (N := 3) rfl ?_); refine box_event ?hg (N := 3) ?hd (cs := #[.bool f, .slice A xss.length c]) (t := 25) ?hr ?_; (case hd => rfl); (case hg => rfl); (case hr => first | (go_simp; done) | (go_simp; rfl)); intro gX hgX wX hxX hbX; have BX := Lib.hid hbX; have XX := Lib.hid hxX; clear hgX hxX hbX) | ((with_reducible refine gate_dst (N := 6) rfl ?_); refine box_event ?hg (N := 6) ?hd (cs := #[.bool false, .slice none 0 0]) (t := 25) ?hr ?_; (case hd => rfl); (case hg => rfl); (case hr => first | (go_simp; done) | (go_simp; rfl)); intro gR hgR wR hxR hbR; have XR := Lib.hid hxR; have BR := Lib.hid (below_step BX.out hbR); have GR_ := Lib.hid (show w.heap.size ≤ gR by rw [hgR]; exact BX.out.size); have XX2 := Lib.hid (blk_below XX.out hbR); clear hgR hxR hbR))
  go_upto_region 2 with (first | ((with_reducible refine gate_dst (N := 7) rfl ?_); refine box_event ?hg (N := 7) ?hd (cs := #[.bool false, .slice none 0 0]) (t := 25) ?hr ?_; (case hd => rfl); (case hg => rfl); (case hr => first | (go_simp; done) | (go_simp; rfl)); intro gS hgS wS hxS hbS; have GS_ := Lib.hid (show w.heap.size ≤ gS by rw [hgS]; exact BR.out.size); have GB_ := Lib.hid (show wR.heap.size ≤ gS by rw [hgS]; exact Nat.le_refl _); have NE := Lib.hid (show gR ≠ gS by rw [hgS]; exact Nat.ne_of_lt (blk_lt XR.out)); have BS := Lib.hid hbS; have XS := Lib.hid hxS; have XR2 := Lib.hid (blk_below XR.out hbS); have XX3 := Lib.hid (blk_below XX2.out hbS); have q0 := (blk_cell hxS 0).trans rfl; have q1 := (blk_cell hxS 1).trans rfl; have z0 := blk_frozen hxS 0; have z1 := blk_frozen hxS 1; clear hgS hxS hbS))
  refine gen2 (φ := fun W => Code.wp _ _ _ _ W) (P := fun W => LdZ w gR gS g (.slice none 0 0) [] [] W ∧ W.heap[gX]? = some (.cells #[.bool f, .slice A xss.length c] 25 (0, 0))) ⟨⟨below_set (below_set (below_step BR.out BS.out) GS_.out) GS_.out, blk_far (blk_far XR2.out NE.out _) NE.out _, by simpa using blk_set (blk_set XS.out 0 (.bool g)) 1 (.slice none 0 0), Kd.R_nil _ _ _ _ _, ⟨rfl, fun j cs x h => by simp at h⟩⟩, blk_below XX2.out (below_set (below_set BS.out GB_.out) GB_.out)⟩ ?_
  clear q0 q1 z0 z1 BS XS XR2 XX3 XX2 XR XX BX BR GB_
  rintro V0 ⟨hV, hXV⟩
  have LV := Lib.hid hV
  have x0 := (blk_cell hXV 0).trans rfl
  have x1 := (blk_cell hXV 1).trans rfl
  clear hV hXV
  go_wp2
  clear x0 x1
  go_loopw [15] (fun s15 wr => ∃ (kk : Nat) (v : Value) (yss : List (List Value)), kk ≤ xss.length ∧ s15 = .int .i64 (kk : Int) ∧ Hid (LdZ w gR gS g v yss ((forkG first xs).take kk) wr)) (fun s15 _ => xss.length - cntV s15)
  case atStart => exact ⟨0, _, _, Nat.zero_le _, rfl, by simpa using LV⟩
  case round =>
    obtain ⟨kk, v, yss, hkk, rfl, LW⟩ := hrel
    by_cases hlt : kk < xss.length
    · have d1 : decide ((kk : Int) < (xss.length : Int)) = true := by simp; omega
      have b1 : (0 : Int) ≤ (kk : Int) := by omega
      have b2 : (kk : Int) < (xss.length : Int) := by omega
      have W1 : IntKind.i64.wrap (first + (kk : Int)) = first + (kk : Int) := by rw [IntKind.wrap_i64]; omega
      obtain ⟨cs, hcs⟩ : ∃ cs, xss[kk]? = some cs := ⟨_, List.getElem?_eq_getElem hlt⟩
      obtain ⟨x, hx⟩ : ∃ x, xs[kk]? = some x := ⟨_, List.getElem?_eq_getElem (by rw [LN.out]; exact hlt)⟩
      have SW := Lib.hid (HS.out.below LW.out.b)
      obtain ⟨p, A1, c1, B1, d1_, ecs, hsp⟩ := SW.out.sgs.2 kk cs x hcs hx
      subst ecs
      obtain ⟨ad, e0, y0, y1, y2, y3, y4⟩ := at_Q SW.out.row hcs hlt
      have SPX := Lib.hid hsp
      have TK := Lib.hid (takeG (fork_get (first := first) hx))
      subst e0
      clear hcs hx hsp SW
      go_upto_region 5 with (first | ((with_reducible refine gate_dst (N := 9) rfl ?_); refine box_event ?hg (N := 9) ?hd (cs := #[.int .i64 0, .int .i64 0, .pointer none, .slice none 0 0, .slice none 0 0]) (t := 45) ?hr ?_; (case hd => rfl); (case hg => rfl); (case hr => first | (go_simp; done) | (go_simp; rfl)); intro gB hgB wB hxB hbB; have GB := Lib.hid (show wr.heap.size ≤ gB by rw [hgB]; exact Nat.le_refl _); have BB := Lib.hid hbB; have XB := Lib.hid hxB; have q0 := (blk_cell hxB 0).trans rfl; have q1 := (blk_cell hxB 1).trans rfl; have q2 := (blk_cell hxB 2).trans rfl; have q3 := (blk_cell hxB 3).trans rfl; have q4 := (blk_cell hxB 4).trans rfl; have z0 := blk_frozen hxB 0; have z1 := blk_frozen hxB 1; have z2 := blk_frozen hxB 2; have z3 := blk_frozen hxB 3; have z4 := blk_frozen hxB 4; clear hgB hxB hbB))
      refine gen2 (φ := fun W => Code.wp _ _ _ _ W) (P := fun W => Below wr.heap.size wr W ∧ W.heap[gB]? = some (.cells (sgC x p A1 c1 B1 d1_) 45 (0, 0))) ⟨below_set (below_set (below_set (below_set (below_set BB.out GB.out) GB.out) GB.out) GB.out) GB.out, by simpa using blk_set (blk_set (blk_set (blk_set (blk_set XB.out 0 (.int .i64 x.f0)) 1 (.int .i64 x.f1)) 2 (.pointer p)) 3 (.slice A1 x.f3.length c1)) 4 (.slice B1 x.f4.length d1_)⟩ ?_
      clear q0 q1 q2 q3 q4 z0 z1 z2 z3 z4 XB BB y0 y1 y2 y3 y4
      have GBW := GB
      clear GB
      rintro V ⟨hbV, hxV⟩
      have L5 := Lib.hid (LW.out.next hbV)
      have S5 := Lib.hid (SPX.out.below hbV)
      have NB := Lib.hid (show some gB ≠ v.ownBlock from fun e => absurd (R_lt LW.out.row e.symm) (by have := GBW.out; omega))
      have NS := Lib.hid (show gB ≠ gS from fun e => by have h1 := hxV; rw [e, L5.out.hS] at h1; injection h1 with h1; injection h1 with _ h2; exact absurd h2 (by decide))
      have XB := Lib.hid hxV
      have QS := Lib.hid (Q5c.of hxV)
      have s1 : V.cell? ⟨gS, 1, none⟩ = some v := blk_cell L5.out.hS 1
      have LY := Lib.hid (show yss.length = kk by have := L5.out.sgs.1; rw [List.length_take, fork_len] at this; have := LN.out; omega)
      clear hbV hxV LW SPX
      refine wp_region_noPanic ?_
      refine wp_region_held_drew (S := (fun w' => Q5c gB x p A1 c1 B1 d1_ w')) ?hm_f ?hS_f (fun hHeld => ?_)
      case hm_f => kernel_rfl
      case hS_f => exact Q5c.of (blk_below XB.out (by (with_reducible repeat (first | exact Below.refl _ _ | apply pw_below_drewN | apply Below.drew))))
      refine wpAnyH_take (i := 0) (oi := ?of0) (v := ?vf0) ?hi_f0 ?k1_f0 ?k2_f0 ?k3_f0 (fun _ _ _ h => h) (Or.inl ⟨?g_f0, ?y_f0⟩) (by assumption) ?r_f0
      case hi_f0 => (simp only [List.getElem?_toArray, List.getElem?_cons_succ, List.getElem?_cons_zero]; rfl)
      case k1_f0 => kernel_rfl
      case k2_f0 => kernel_rfl
      case k3_f0 => kernel_rfl
      case g_f0 => rfl
      case y_f0 => (intro w hSw; (try dsimp only at hSw); first | (go_simp; done) | (go_simp; with_reducible rfl))
      (try simp only [Act.put, List.setIfInBounds_toArray, List.set_cons_zero, List.set_cons_succ])
      refine wpAnyH_take (i := 2) (oi := ?of2) (v := ?vf2) ?hi_f2 ?k1_f2 ?k2_f2 ?k3_f2 (fun _ _ _ h => h) (Or.inl ⟨?g_f2, ?y_f2⟩) (by assumption) ?r_f2
      case hi_f2 => (simp only [List.getElem?_toArray, List.getElem?_cons_succ, List.getElem?_cons_zero]; rfl)
      case k1_f2 => kernel_rfl
      case k2_f2 => kernel_rfl
      case k3_f2 => kernel_rfl
      case g_f2 => rfl
      case y_f2 => (intro w hSw; (try dsimp only at hSw); first | (go_simp; done) | (go_simp; with_reducible rfl))
      (try simp only [Act.put, List.setIfInBounds_toArray, List.set_cons_zero, List.set_cons_succ])
      refine wpAnyH_take (i := 3) (oi := ?of3) (v := ?vf3) ?hi_f3 ?k1_f3 ?k2_f3 ?k3_f3 (fun _ _ _ h => h) (Or.inl ⟨?g_f3, ?y_f3⟩) (by assumption) ?r_f3
      case hi_f3 => (simp only [List.getElem?_toArray, List.getElem?_cons_succ, List.getElem?_cons_zero]; rfl)
      case k1_f3 => kernel_rfl
      case k2_f3 => kernel_rfl
      case k3_f3 => kernel_rfl
      case g_f3 => rfl
      case y_f3 => (intro w hSw; (try dsimp only at hSw); first | (go_simp; done) | (go_simp; with_reducible rfl))
      (try simp only [Act.put, List.setIfInBounds_toArray, List.set_cons_zero, List.set_cons_succ])
      refine wpAnyH_take (i := 4) (oi := ?of4) (v := ?vf4) ?hi_f4 ?k1_f4 ?k2_f4 ?k3_f4 (fun _ _ _ h => h) (Or.inl ⟨?g_f4, ?y_f4⟩) (by assumption) ?r_f4
      case hi_f4 => (simp only [List.getElem?_toArray, List.getElem?_cons_succ, List.getElem?_cons_zero]; rfl)
      case k1_f4 => kernel_rfl
      case k2_f4 => kernel_rfl
      case k3_f4 => kernel_rfl
      case g_f4 => rfl
      case y_f4 => (intro w hSw; (try dsimp only at hSw); first | (go_simp; done) | (go_simp; with_reducible rfl))
      (try simp only [Act.put, List.setIfInBounds_toArray, List.set_cons_zero, List.set_cons_succ])
      refine wpAnyH_take (i := 5) (oi := ?of5) (v := ?vf5) ?hi_f5 ?k1_f5 ?k2_f5 ?k3_f5 (fun _ _ _ h => h) (Or.inl ⟨?g_f5, ?y_f5⟩) (by assumption) ?r_f5
      case hi_f5 => (simp only [List.getElem?_toArray, List.getElem?_cons_succ, List.getElem?_cons_zero]; rfl)
      case k1_f5 => kernel_rfl
      case k2_f5 => kernel_rfl
      case k3_f5 => kernel_rfl
      case g_f5 => rfl
      case y_f5 => (intro w hSw; (try dsimp only at hSw); first | (go_simp; done) | (go_simp; with_reducible rfl))
      (try simp only [Act.put, List.setIfInBounds_toArray, List.set_cons_zero, List.set_cons_succ])
      refine wpAnyH_ready (rs := [1, 6]) ?k1_fx1 (by simp) ?r_fx1
      case k1_fx1 => kernel_rfl
      refine AllReadyH.cons (o := ?ofx1) ?hi_fx1 (fun K hK => ?s_fx1) ?m_fx1
      case hi_fx1 => (simp only [List.getElem?_toArray, List.getElem?_cons_succ, List.getElem?_cons_zero]; rfl)
      case m_fx1 =>
        refine AllReadyH.cons (o := ?ofx6) ?hi_fx6 (fun K hK => ?s_fx6) ?m_fx6
        case hi_fx6 => (simp only [List.getElem?_toArray, List.getElem?_cons_succ, List.getElem?_cons_zero]; rfl)
        case m_fx6 => exact AllReadyH.nil
        go_simp
        (go_at_call 51; (with_reducible refine (twin_calls x p A1 c1 B1 d1_ (first + (kk : Int)) _).mono ?_); rintro e w6 ⟨rfl, hb6⟩; have B6 := Lib.hid (below_step (show Below V.heap.size V _ by (with_reducible repeat (first | exact Below.refl _ _ | apply pw_below_drewN | apply Below.drew))) hb6); have XB6 := Lib.hid (blk_below XB.out B6.out); have HS6 := Lib.hid (Q5c.of XB6.out); have k1 := pw_cell_below B6.out s1; have k2 : ∀ o, (w6.alloc o).cell? ⟨gS, 1, none⟩ = some v := fun o => pw_cell_below (below_alloc (Below.refl _ _) o) k1; clear hb6)
        (try go_wp2_with fail)
        refine hK.out _ _ HS6.out (fun hHeld => ?_)
        clear hK K
        (try simp only [Act.put, List.setIfInBounds_toArray, List.set_cons_zero, List.set_cons_succ])
        refine wpAnyH_ready (rs := [1, 7]) ?k1_fBx1 (by simp) ?r_fBx1
        case k1_fBx1 => kernel_rfl
        refine AllReadyH.cons (o := ?ofBx1) ?hi_fBx1 (fun K hK => ?s_fBx1) ?m_fBx1
        case hi_fBx1 => (simp only [List.getElem?_toArray, List.getElem?_cons_succ, List.getElem?_cons_zero]; rfl)
        case m_fBx1 =>
          refine AllReadyH.cons (o := ?ofBx7) ?hi_fBx7 (fun K hK => ?s_fBx7) ?m_fBx7
          case hi_fBx7 => (simp only [List.getElem?_toArray, List.getElem?_cons_succ, List.getElem?_cons_zero]; rfl)
          case m_fBx7 => exact AllReadyH.nil
          go_simp
          refine hK.out _ _ (Q5c.of (blk_alloc XB6.out _)) (fun hHeld => ?_)
          clear hK K
          (try simp only [Act.put, List.setIfInBounds_toArray, List.set_cons_zero, List.set_cons_succ])
          refine wpAnyH_ready (rs := [1]) ?k1_fBB1 (by simp) ?r_fBB1
          case k1_fBB1 => kernel_rfl
          refine AllReadyH.cons (o := ?ofBB1) ?hi_fBB1 (fun K hK => ?s_fBB1) ?m_fBB1
          case hi_fBB1 => (simp only [List.getElem?_toArray, List.getElem?_cons_succ, List.getElem?_cons_zero]; rfl)
          case m_fBB1 => exact AllReadyH.nil
          go_simp
          refine hK.out _ _ (by assumption) (fun hHeld => ?_)
          clear hK K
          (try simp only [Act.put, List.setIfInBounds_toArray, List.set_cons_zero, List.set_cons_succ])
          refine wpAnyH_ready (rs := [8]) ?k1_fBB8 (by simp) ?r_fBB8
          case k1_fBB8 => kernel_rfl
          refine AllReadyH.cons (o := ?ofBB8) ?hi_fBB8 (fun K hK => ?s_fBB8) ?m_fBB8
          case hi_fBB8 => (simp only [List.getElem?_toArray, List.getElem?_cons_succ, List.getElem?_cons_zero]; rfl)
          case m_fBB8 => exact AllReadyH.nil
          (refine Kd.R_append_rows_step kQ (w0 := w) (Rr := kQ.K w) w.heap.size ?hw_r (.tmp 21) (.tmp 27) 23 45 (.agg #[.int .i64 0, .int .i64 0, .pointer none, .slice none 0 0, .slice none 0 0]) 72 ?ho_r Tryd.underlying23 infoC45 rfl ?hp1_r ?hp2_r v yss [[.int .i64 (first + (kk : Int)), .int .i64 x.f1, .pointer p, .slice none 0 0, .slice none 0 0]] _ 1 1 (fun _ => True) (fun _ => False) rfl rfl ?h1_r ?h2_r (fun _ _ h => h) (fun _ h => h.elim) (fun _ _ => trivial) ?h3_r ?h4_r ?h5_r ?_)
          (case ho_r => rfl); (case hw_r => rfl); (case hp1_r => decide); (case hp2_r => decide)
          (case h1_r => exact Kd.R_below L5.out.row (below_alloc B6.out _)); (case h2_r => exact C_oneQ one5 (blk_newS rfl)); (case h3_r => exact below_step L5.out.b (below_alloc B6.out _)); (case h4_r => exact (below_step L5.out.b (below_alloc B6.out _)).size); (case h5_r => have := LY.out; simp; omega)
          intro v8 w8 ho8 hb8 hg8 hat8
          obtain ⟨Av, cv, ev⟩ := Kd.R_slice ho8
          rw [List.length_append, List.length_singleton] at ev
          subst ev
          have LW6 := Lib.hid (L5.out.next (below_alloc B6.out (.cells #[.int .i64 (twG (first + (kk : Int)) x).f0, .int .i64 (twG (first + (kk : Int)) x).f1, .pointer p, .slice none 0 0, .slice none 0 0] 45)))
          have SP6 := Lib.hid (twG_sp (S5.out.below (below_alloc B6.out (.cells #[.int .i64 (twG (first + (kk : Int)) x).f0, .int .i64 (twG (first + (kk : Int)) x).f1, .pointer p, .slice none 0 0, .slice none 0 0] 45))) (first + (kk : Int)))
          have e8 := (R_typeQ LW6.out.row hg8 (by decide) _ _ LW6.out.hS).trans LW6.out.hS
          have t1 := (blk_cell e8 1).trans rfl
          have u1 := blk_frozen e8 1
          have XB8 := Lib.hid ((hg8.block _ (blk_lt (blk_alloc XB6.out _)) NB.out).trans (blk_alloc XB6.out _))
          have HS8 := Lib.hid (Q5c.of XB8.out)
          have L8 := Lib.hid (LW6.out.more ⟨p, none, 0, none, 0, rfl, SP6.out⟩ ho8 hg8 hb8 NE.out GS_.out)
          clear ho8 hb8 hg8 hat8 e8
          refine hK.out _ _ HS8.out (fun hHeld => ?_)
          clear hK K
          (try simp only [Act.put, List.setIfInBounds_toArray, List.set_cons_zero, List.set_cons_succ])
          refine wpAnyH_take (i := 9) (oi := ?ofBB9) (v := ?vfBB9) ?hi_fBB9 ?k1_fBB9 ?k2_fBB9 ?k3_fBB9 (fun _ _ _ h => h) (Or.inl ⟨?g_fBB9, ?y_fBB9⟩) (by assumption) ?r_fBB9
          case hi_fBB9 => (simp only [List.getElem?_toArray, List.getElem?_cons_succ, List.getElem?_cons_zero]; rfl)
          case k1_fBB9 => kernel_rfl
          case k2_fBB9 => kernel_rfl
          case k3_fBB9 => kernel_rfl
          case g_fBB9 => rfl
          case y_fBB9 => (intro w hSw; (try dsimp only at hSw); first | (go_simp; done) | (go_simp; with_reducible rfl))
          (try simp only [Act.put, List.setIfInBounds_toArray, List.set_cons_zero, List.set_cons_succ])
          refine wpAnyH_ready (rs := [10]) ?k1_fBB10 (by simp) ?r_fBB10
          case k1_fBB10 => kernel_rfl
          refine AllReadyH.cons (o := ?ofBB10) ?hi_fBB10 (fun K hK => ?s_fBB10) ?m_fBB10
          case hi_fBB10 => (simp only [List.getElem?_toArray, List.getElem?_cons_succ, List.getElem?_cons_zero]; rfl)
          case m_fBB10 => exact AllReadyH.nil
          go_simp
          refine hK.out _ _ (Q5c.of ((Below.heap_setCell _ ⟨gS, 1, none⟩ _ gB NS.out).trans XB8.out)) (fun hHeld => ?_)
          clear hK K
          (try simp only [Act.put, List.setIfInBounds_toArray, List.set_cons_zero, List.set_cons_succ])
          refine wpAnyH_done (by kernel_rfl) ?_ _
          refine NoPanic.normal ?_
          go_wp2
          go_roundw
          case rel => exact ⟨kk + 1, _, _, by omega, by go_num, by rw [TK.out]; exact L8⟩
          case measure =>
            simp only [cntV]
            omega
        go_simp
        refine hK.out _ _ (by assumption) (fun hHeld => ?_)
        clear hK K
        (try simp only [Act.put, List.setIfInBounds_toArray, List.set_cons_zero, List.set_cons_succ])
        refine wpAnyH_ready (rs := [7]) ?k1_fBA7 (by simp) ?r_fBA7
        case k1_fBA7 => kernel_rfl
        refine AllReadyH.cons (o := ?ofBA7) ?hi_fBA7 (fun K hK => ?s_fBA7) ?m_fBA7
        case hi_fBA7 => (simp only [List.getElem?_toArray, List.getElem?_cons_succ, List.getElem?_cons_zero]; rfl)
        case m_fBA7 => exact AllReadyH.nil
        go_simp
        refine hK.out _ _ (Q5c.of (blk_alloc XB6.out _)) (fun hHeld => ?_)
        clear hK K
        (try simp only [Act.put, List.setIfInBounds_toArray, List.set_cons_zero, List.set_cons_succ])
        refine wpAnyH_ready (rs := [8]) ?k1_fBA8 (by simp) ?r_fBA8
        case k1_fBA8 => kernel_rfl
        refine AllReadyH.cons (o := ?ofBA8) ?hi_fBA8 (fun K hK => ?s_fBA8) ?m_fBA8
        case hi_fBA8 => (simp only [List.getElem?_toArray, List.getElem?_cons_succ, List.getElem?_cons_zero]; rfl)
        case m_fBA8 => exact AllReadyH.nil
        (refine Kd.R_append_rows_step kQ (w0 := w) (Rr := kQ.K w) w.heap.size ?hw_q (.tmp 21) (.tmp 27) 23 45 (.agg #[.int .i64 0, .int .i64 0, .pointer none, .slice none 0 0, .slice none 0 0]) 72 ?ho_q Tryd.underlying23 infoC45 rfl ?hp1_q ?hp2_q v yss [[.int .i64 (first + (kk : Int)), .int .i64 x.f1, .pointer p, .slice none 0 0, .slice none 0 0]] _ 1 1 (fun _ => True) (fun _ => False) rfl rfl ?h1_q ?h2_q (fun _ _ h => h) (fun _ h => h.elim) (fun _ _ => trivial) ?h3_q ?h4_q ?h5_q ?_)
        (case ho_q => rfl); (case hw_q => rfl); (case hp1_q => decide); (case hp2_q => decide)
        (case h1_q => exact Kd.R_below L5.out.row (below_alloc B6.out _)); (case h2_q => exact C_oneQ one5 (blk_newS rfl)); (case h3_q => exact below_step L5.out.b (below_alloc B6.out _)); (case h4_q => exact (below_step L5.out.b (below_alloc B6.out _)).size); (case h5_q => have := LY.out; simp; omega)
        intro v8 w8 ho8 hb8 hg8 hat8
        obtain ⟨Av, cv, ev⟩ := Kd.R_slice ho8
        rw [List.length_append, List.length_singleton] at ev
        subst ev
        have LW6 := Lib.hid (L5.out.next (below_alloc B6.out (.cells #[.int .i64 (twG (first + (kk : Int)) x).f0, .int .i64 (twG (first + (kk : Int)) x).f1, .pointer p, .slice none 0 0, .slice none 0 0] 45)))
        have SP6 := Lib.hid (twG_sp (S5.out.below (below_alloc B6.out (.cells #[.int .i64 (twG (first + (kk : Int)) x).f0, .int .i64 (twG (first + (kk : Int)) x).f1, .pointer p, .slice none 0 0, .slice none 0 0] 45))) (first + (kk : Int)))
        have e8 := (R_typeQ LW6.out.row hg8 (by decide) _ _ LW6.out.hS).trans LW6.out.hS
        have t1 := (blk_cell e8 1).trans rfl
        have u1 := blk_frozen e8 1
        have XB8 := Lib.hid ((hg8.block _ (blk_lt (blk_alloc XB6.out _)) NB.out).trans (blk_alloc XB6.out _))
        have HS8 := Lib.hid (Q5c.of XB8.out)
        have L8 := Lib.hid (LW6.out.more ⟨p, none, 0, none, 0, rfl, SP6.out⟩ ho8 hg8 hb8 NE.out GS_.out)
        clear ho8 hb8 hg8 hat8 e8
        refine hK.out _ _ HS8.out (fun hHeld => ?_)
        clear hK K
        (try simp only [Act.put, List.setIfInBounds_toArray, List.set_cons_zero, List.set_cons_succ])
        refine wpAnyH_take (i := 9) (oi := ?ofBA9) (v := ?vfBA9) ?hi_fBA9 ?k1_fBA9 ?k2_fBA9 ?k3_fBA9 (fun _ _ _ h => h) (Or.inl ⟨?g_fBA9, ?y_fBA9⟩) (by assumption) ?r_fBA9
        case hi_fBA9 => (simp only [List.getElem?_toArray, List.getElem?_cons_succ, List.getElem?_cons_zero]; rfl)
        case k1_fBA9 => kernel_rfl
        case k2_fBA9 => kernel_rfl
        case k3_fBA9 => kernel_rfl
        case g_fBA9 => rfl
        case y_fBA9 => (intro w hSw; (try dsimp only at hSw); first | (go_simp; done) | (go_simp; with_reducible rfl))
        (try simp only [Act.put, List.setIfInBounds_toArray, List.set_cons_zero, List.set_cons_succ])
        refine wpAnyH_ready (rs := [10]) ?k1_fBA10 (by simp) ?r_fBA10
        case k1_fBA10 => kernel_rfl
        refine AllReadyH.cons (o := ?ofBA10) ?hi_fBA10 (fun K hK => ?s_fBA10) ?m_fBA10
        case hi_fBA10 => (simp only [List.getElem?_toArray, List.getElem?_cons_succ, List.getElem?_cons_zero]; rfl)
        case m_fBA10 => exact AllReadyH.nil
        go_simp
        refine hK.out _ _ (Q5c.of ((Below.heap_setCell _ ⟨gS, 1, none⟩ _ gB NS.out).trans XB8.out)) (fun hHeld => ?_)
        clear hK K
        (try simp only [Act.put, List.setIfInBounds_toArray, List.set_cons_zero, List.set_cons_succ])
        refine wpAnyH_done (by kernel_rfl) ?_ _
        refine NoPanic.normal ?_
        go_wp2
        go_roundw
        case rel => exact ⟨kk + 1, _, _, by omega, by go_num, by rw [TK.out]; exact L8⟩
        case measure =>
          simp only [cntV]
          omega
      go_simp
      refine hK.out _ _ (by assumption) (fun hHeld => ?_)
      clear hK K
      (try simp only [Act.put, List.setIfInBounds_toArray, List.set_cons_zero, List.set_cons_succ])
      refine wpAnyH_ready (rs := [6]) ?k1_fA6 (by simp) ?r_fA6
      case k1_fA6 => kernel_rfl
      refine AllReadyH.cons (o := ?ofA6) ?hi_fA6 (fun K hK => ?s_fA6) ?m_fA6
      case hi_fA6 => (simp only [List.getElem?_toArray, List.getElem?_cons_succ, List.getElem?_cons_zero]; rfl)
      case m_fA6 => exact AllReadyH.nil
      go_simp
      (go_at_call 51; (with_reducible refine (twin_calls x p A1 c1 B1 d1_ (first + (kk : Int)) _).mono ?_); rintro e w6 ⟨rfl, hb6⟩; have B6 := Lib.hid (below_step (show Below V.heap.size V _ by (with_reducible repeat (first | exact Below.refl _ _ | apply pw_below_drewN | apply Below.drew))) hb6); have XB6 := Lib.hid (blk_below XB.out B6.out); have HS6 := Lib.hid (Q5c.of XB6.out); have k1 := pw_cell_below B6.out s1; have k2 : ∀ o, (w6.alloc o).cell? ⟨gS, 1, none⟩ = some v := fun o => pw_cell_below (below_alloc (Below.refl _ _) o) k1; clear hb6)
      (try go_wp2_with fail)
      refine hK.out _ _ HS6.out (fun hHeld => ?_)
      clear hK K
      (try simp only [Act.put, List.setIfInBounds_toArray, List.set_cons_zero, List.set_cons_succ])
      refine wpAnyH_ready (rs := [7]) ?k1_fA7 (by simp) ?r_fA7
      case k1_fA7 => kernel_rfl
      refine AllReadyH.cons (o := ?ofA7) ?hi_fA7 (fun K hK => ?s_fA7) ?m_fA7
      case hi_fA7 => (simp only [List.getElem?_toArray, List.getElem?_cons_succ, List.getElem?_cons_zero]; rfl)
      case m_fA7 => exact AllReadyH.nil
      go_simp
      refine hK.out _ _ (Q5c.of (blk_alloc XB6.out _)) (fun hHeld => ?_)
      clear hK K
      (try simp only [Act.put, List.setIfInBounds_toArray, List.set_cons_zero, List.set_cons_succ])
      refine wpAnyH_ready (rs := [8]) ?k1_fA8 (by simp) ?r_fA8
      case k1_fA8 => kernel_rfl
      refine AllReadyH.cons (o := ?ofA8) ?hi_fA8 (fun K hK => ?s_fA8) ?m_fA8
      case hi_fA8 => (simp only [List.getElem?_toArray, List.getElem?_cons_succ, List.getElem?_cons_zero]; rfl)
      case m_fA8 => exact AllReadyH.nil
      (refine Kd.R_append_rows_step kQ (w0 := w) (Rr := kQ.K w) w.heap.size ?hw_p (.tmp 21) (.tmp 27) 23 45 (.agg #[.int .i64 0, .int .i64 0, .pointer none, .slice none 0 0, .slice none 0 0]) 72 ?ho_p Tryd.underlying23 infoC45 rfl ?hp1_p ?hp2_p v yss [[.int .i64 (first + (kk : Int)), .int .i64 x.f1, .pointer p, .slice none 0 0, .slice none 0 0]] _ 1 1 (fun _ => True) (fun _ => False) rfl rfl ?h1_p ?h2_p (fun _ _ h => h) (fun _ h => h.elim) (fun _ _ => trivial) ?h3_p ?h4_p ?h5_p ?_)
      (case ho_p => rfl); (case hw_p => rfl); (case hp1_p => decide); (case hp2_p => decide)
      (case h1_p => exact Kd.R_below L5.out.row (below_alloc B6.out _)); (case h2_p => exact C_oneQ one5 (blk_newS rfl)); (case h3_p => exact below_step L5.out.b (below_alloc B6.out _)); (case h4_p => exact (below_step L5.out.b (below_alloc B6.out _)).size); (case h5_p => have := LY.out; simp; omega)
      intro v8 w8 ho8 hb8 hg8 hat8
      obtain ⟨Av, cv, ev⟩ := Kd.R_slice ho8
      rw [List.length_append, List.length_singleton] at ev
      subst ev
      have LW6 := Lib.hid (L5.out.next (below_alloc B6.out (.cells #[.int .i64 (twG (first + (kk : Int)) x).f0, .int .i64 (twG (first + (kk : Int)) x).f1, .pointer p, .slice none 0 0, .slice none 0 0] 45)))
      have SP6 := Lib.hid (twG_sp (S5.out.below (below_alloc B6.out (.cells #[.int .i64 (twG (first + (kk : Int)) x).f0, .int .i64 (twG (first + (kk : Int)) x).f1, .pointer p, .slice none 0 0, .slice none 0 0] 45))) (first + (kk : Int)))
      have e8 := (R_typeQ LW6.out.row hg8 (by decide) _ _ LW6.out.hS).trans LW6.out.hS
      have t1 := (blk_cell e8 1).trans rfl
      have u1 := blk_frozen e8 1
      have XB8 := Lib.hid ((hg8.block _ (blk_lt (blk_alloc XB6.out _)) NB.out).trans (blk_alloc XB6.out _))
      have HS8 := Lib.hid (Q5c.of XB8.out)
      have L8 := Lib.hid (LW6.out.more ⟨p, none, 0, none, 0, rfl, SP6.out⟩ ho8 hg8 hb8 NE.out GS_.out)
      clear ho8 hb8 hg8 hat8 e8
      refine hK.out _ _ HS8.out (fun hHeld => ?_)
      clear hK K
      (try simp only [Act.put, List.setIfInBounds_toArray, List.set_cons_zero, List.set_cons_succ])
      refine wpAnyH_take (i := 9) (oi := ?ofA9) (v := ?vfA9) ?hi_fA9 ?k1_fA9 ?k2_fA9 ?k3_fA9 (fun _ _ _ h => h) (Or.inl ⟨?g_fA9, ?y_fA9⟩) (by assumption) ?r_fA9
      case hi_fA9 => (simp only [List.getElem?_toArray, List.getElem?_cons_succ, List.getElem?_cons_zero]; rfl)
      case k1_fA9 => kernel_rfl
      case k2_fA9 => kernel_rfl
      case k3_fA9 => kernel_rfl
      case g_fA9 => rfl
      case y_fA9 => (intro w hSw; (try dsimp only at hSw); first | (go_simp; done) | (go_simp; with_reducible rfl))
      (try simp only [Act.put, List.setIfInBounds_toArray, List.set_cons_zero, List.set_cons_succ])
      refine wpAnyH_ready (rs := [10]) ?k1_fA10 (by simp) ?r_fA10
      case k1_fA10 => kernel_rfl
      refine AllReadyH.cons (o := ?ofA10) ?hi_fA10 (fun K hK => ?s_fA10) ?m_fA10
      case hi_fA10 => (simp only [List.getElem?_toArray, List.getElem?_cons_succ, List.getElem?_cons_zero]; rfl)
      case m_fA10 => exact AllReadyH.nil
      go_simp
      refine hK.out _ _ (Q5c.of ((Below.heap_setCell _ ⟨gS, 1, none⟩ _ gB NS.out).trans XB8.out)) (fun hHeld => ?_)
      clear hK K
      (try simp only [Act.put, List.setIfInBounds_toArray, List.set_cons_zero, List.set_cons_succ])
      refine wpAnyH_done (by kernel_rfl) ?_ _
      refine NoPanic.normal ?_
      go_wp2
      go_roundw
      case rel => exact ⟨kk + 1, _, _, by omega, by go_num, by rw [TK.out]; exact L8⟩
      case measure =>
        simp only [cntV]
        omega
    · have d1 : decide ((kk : Int) < (xss.length : Int)) = false := by simp; omega
      obtain rfl : kk = xss.length := by omega
      rw [List.take_of_length_le (by rw [fork_len, LN.out]; exact Nat.le_refl _)] at LW
      obtain ⟨A7, c7, e7⟩ := Kd.R_slice LW.out.row
      subst e7
      have r0 := (blk_cell LW.out.hR 0).trans rfl
      have r1 := (blk_cell LW.out.hR 1).trans rfl
      have f0 := blk_frozen LW.out.hR 0
      have f1 := blk_frozen LW.out.hR 1
      have s0 := (blk_cell LW.out.hS 0).trans rfl
      have s1 := (blk_cell LW.out.hS 1).trans rfl
      have SH0 := Lib.hid (Sh.of LW.out.row LW.out.sgs)
      go_wp2
      refine bodyPost_ret (results_cell_row rfl _ _ gR 25 #[.bool g, .slice A7 yss.length c7] (0, 0) _ rfl (by simpa using blk_set (blk_set LW.out.hR 0 (.bool g)) 1 (.slice A7 yss.length c7)) Tryd.underlying25 rfl (by kernel_rfl)) rfl ?_
      exact ⟨A7, c7, yss, rfl, (SH0.out.set LW.out.hR 0 _).set (blk_set LW.out.hR 0 _) 1 _, below_set (below_set LW.out.b GR_.out) GR_.out⟩
end Go.Proofs.YtkkjebjlgcggcaaDoor.Seg
