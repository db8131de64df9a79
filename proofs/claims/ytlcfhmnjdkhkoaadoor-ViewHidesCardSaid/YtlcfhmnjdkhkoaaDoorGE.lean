/- The reference's Right of a document's segments. Conditions: at most 2^40 segments, of at most 2^40 bytes, spans, sites each. -/
import Derived.Test.YtlcfhmnjdkhkoaaDoorGD
namespace Go.Proofs.YtlcfhmnjdkhkoaaDoor.Seg
open Go.RowKit Go.Proofs.YtlcfhmnjdkhkoaaDoorPl Go.Maps Go.Proofs.YtlcfhmnjdkhkoaaDoorW.PrintWords Go.Proofs.YtlcfhmnjdkhkoaaDoorW.PrintLast Go.Proofs.YtlcfhmnjdkhkoaaDoorW.PrintMore Go.Proofs.YtlcfhmnjdkhkoaaDoor.Rope Go.Proofs.YtlcfhmnjdkhkoaaDoor.PViewRuns Go.Proofs.YtlcfhmnjdkhkoaaDoor.Pure
set_option linter.unusedVariables false
set_option linter.unusedSimpArgs false
/-- The first place of an Id, from i on; -1. -/
def plc (xs : List G) (d : Int) : Nat → Nat → Int
 | 0, _ => -1
 | n + 1, i => match xs[i]? with
  | none => -1
  | some x => if x.f0 = d then (i : Int) else plc xs d n (i + 1)
theorem place_l0 (xs : List G) (d : Int) (hn : xs.length ≤ 1099511627776) : ∀ (e i : Nat), xs.length - i = e → i ≤ xs.length → Ev (fun k => chancelref06_Place.l0 k xs d (i : Int)) (plc xs d e i)
 | 0, i, he, hi => ev_next (f := fun _ => some (-1)) (fun k => by simp only [chancelref06_Place.l0]; rw [if_neg (by omega)]) (Ev.now _)
 | e + 1, i, he, hi => by
  obtain ⟨x, hx⟩ : ∃ x, xs[i]? = some x := ⟨_, List.getElem?_eq_getElem (by omega)⟩
  have W1 := wrap_succ (i := i) (by omega)
  have ep : plc xs d (e + 1) i = if x.f0 = d then (i : Int) else plc xs d e (i + 1) := by simp only [plc, hx]
  rw [ep]
  by_cases h : x.f0 = d
  ·rw [if_pos h]
   refine ev_next (f := fun _ => some (i : Int)) (fun k => ?_) (Ev.now _)
   simp only [chancelref06_Place.l0, rd_G hx]
   rw [if_pos (by omega), if_pos (by omega), if_pos h]
  ·rw [if_neg h]
   refine ev_next (fun k => ?_) (place_l0 xs d hn e (i + 1) (by omega) (by omega))
   simp only [chancelref06_Place.l0, rd_G hx]
   rw [if_pos (by omega), if_pos (by omega), if_neg h, W1]
theorem place_ev (xs : List G) (d : Int) (hn : xs.length ≤ 1099511627776) : Ev (fun k => chancelref06_Place.f k xs d) (plc xs d xs.length 0) := place_l0 xs d hn _ 0 rfl (by omega)
theorem plc_iff {xs : List G} {i : Nat} {x : G} (hx : xs[i]? = some x) : ∀ (e j : Nat), xs.length - j = e → j ≤ i → ¬ x.f0 ∈ (xs.take j).map (·.f0) → (plc xs x.f0 e j = (i : Int) ↔ ¬ x.f0 ∈ (xs.take i).map (·.f0))
 | 0, j, he, hj, hm => by
  have := (List.getElem?_eq_some_iff.1 hx).1
  omega
 | e + 1, j, he, hj, hm => by
  obtain ⟨y, hy⟩ : ∃ y, xs[j]? = some y := ⟨_, List.getElem?_eq_getElem (by omega)⟩
  have ep : plc xs x.f0 (e + 1) j = if y.f0 = x.f0 then (j : Int) else plc xs x.f0 e (j + 1) := by simp only [plc, hy]
  rw [ep]
  by_cases h : y.f0 = x.f0
  ·rw [if_pos h]
   rcases Nat.lt_or_ge j i with h1 | h1
   ·have hin : x.f0 ∈ (xs.take i).map (·.f0) := by
     rw [← h]
     exact List.mem_map.2 ⟨y, List.mem_of_getElem? (i := j) (by rw [List.getElem?_take, if_pos h1]; exact hy), rfl⟩
    exact ⟨fun e => by omega, fun e => absurd hin e⟩
   ·obtain rfl : j = i := by omega
    exact ⟨fun _ => hm, fun _ => rfl⟩
  ·rw [if_neg h]
   have h1 : j ≠ i := by
    rintro rfl
    rw [hx] at hy
    injection hy with hy
    exact h (by rw [hy])
   refine plc_iff hx e (j + 1) (by omega) (by omega) ?_
   rw [take_ids hy, List.mem_append]
   rintro (h2 | h2)
   ·exact hm h2
   ·exact h (List.mem_singleton.1 h2).symm
end Go.Proofs.YtlcfhmnjdkhkoaaDoor.Seg
/- The walk of the reference's Right of a document. Conditions: at most 2^40 segments, of at most 2^40 bytes, spans, sites each. -/
namespace Go.Proofs.YtlcfhmnjdkhkoaaDoor.Seg
open Go.RowKit Go.Proofs.YtlcfhmnjdkhkoaaDoorPl Go.Maps Go.Proofs.YtlcfhmnjdkhkoaaDoorW.PrintWords Go.Proofs.YtlcfhmnjdkhkoaaDoorW.PrintLast Go.Proofs.YtlcfhmnjdkhkoaaDoorW.PrintMore Go.Proofs.YtlcfhmnjdkhkoaaDoor.Rope Go.Proofs.YtlcfhmnjdkhkoaaDoor.PViewRuns Go.Proofs.YtlcfhmnjdkhkoaaDoor.Pure
set_option linter.unusedVariables false
set_option linter.unusedSimpArgs false
def RetR6 (xs : List G) (w : World) (e : Ending) (w' : World) : Prop := ∃ b, e = .returned (.bool b) ∧ (b = true ↔ okS xs) ∧ Below w.heap.size w w'
set_option maxRecDepth 1000000 in
set_option maxHeartbeats 4000000 in
theorem right6_calls (A : Option Addr) (c : Nat) (xs : List G) (w : World) (hr : Kd.C kG w A xs.length xs) (hc : xs.length ≤ c) (hz : ∀ x ∈ xs, Sz x) (hl : xs.length ≤ 1099511627776) :
  Calls Tryd.prog 10 #[.slice A xs.length c] w (RetR6 xs w) := by
 have HR := Lib.hid hr
 have HZ := Lib.hid hz
 clear hr hz
 go_enter Tryd.func10, Tryd.ntmps10
 go_wp2
 go_loopw [3] (fun s3 wr => ∃ kk : Nat, kk ≤ xs.length ∧ s3 = .int .i64 (kk : Int) ∧ Hid (Below w.heap.size w wr) ∧ Hid (((xs.take kk).map (·.f0)).Nodup) ∧ Hid (∀ j x, xs[j]? = some x → j < kk → okB x = true)) (fun s3 _ => xs.length - cntV s3)
 case atStart => exact ⟨0, Nat.zero_le _, rfl, Lib.hid (Below.refl _ w), Lib.hid (by simp), Lib.hid (fun j x _ h => absurd h (Nat.not_lt_zero _))⟩
 case round =>
  obtain ⟨kk, hkk, rfl, BW, NW, OW⟩ := hrel
  by_cases hlt : kk < xs.length
  ·have d1 : decide ((kk : Int) < (xs.length : Int)) = true := by simp; omega
   have b1 : (0 : Int) ≤ (kk : Int) := by omega
   have b2 : (kk : Int) < (xs.length : Int) := by omega
   obtain ⟨x, hx⟩ : ∃ x, xs[kk]? = some x := ⟨_, List.getElem?_eq_getElem hlt⟩
   have ZX := Lib.hid (HZ.out x (List.mem_of_getElem? hx))
   obtain ⟨ad, A3, c3, A4, c4, e0, y0, y1, y2, y3, y4, hgr⟩ := at_G (Kd.C_below HR.out BW.out) hx hlt
   subst e0
   have HG := Lib.hid hgr
   have HX := Lib.hid hx
   clear hgr hx
   cases hok : okB x with
   | false =>
    have OK := Lib.hid hok
    clear hok
    go_wp2_with (first | (go_at_call 29; refine (right5_calls x A3 c3 A4 c4 _ HG.out ZX.out).mono ?_; rw [OK.out]; rintro e w5 ⟨rfl, hb5⟩; have B5 := Lib.hid (below_step BW.out hb5); clear hb5))
    go_ret
    exact ⟨false, rfl, ⟨(fun h => by cases h), (fun h => by have := h.1 x (List.mem_of_getElem? HX.out); rw [OK.out] at this; cases this)⟩, B5.out⟩
   | true =>
    have OK := Lib.hid hok
    clear hok
    obtain ⟨k4, hk4⟩ := Go.Proofs.YtlcfhmnjdkhkoaaDoorW.PrintWords.Ev.rounds (place_ev xs x.f0 hl)
    have K4 := Lib.hid hk4
    have PI := Lib.hid (plc_iff HX.out xs.length 0 (by omega) (by omega) (by simp))
    generalize plc xs x.f0 xs.length 0 = q at K4 PI
    clear hk4
    by_cases hq : q = (kk : Int)
    ·have e1 : (q == (kk : Int)) = true := by simpa using hq
     have ND := Lib.hid (nodup_more HX.out NW.out (PI.out.1 hq))
     clear hq
     go_wp2_with (first | (go_at_call 29; refine (right5_calls x A3 c3 A4 c4 _ HG.out ZX.out).mono ?_; rw [OK.out]; rintro e w5 ⟨rfl, hb5⟩; have B5 := Lib.hid (below_step BW.out hb5); replace y0 := pw_cell_below hb5 y0; clear hb5) | (go_at_call 30; refine (chancelref06_Place.calls k4 (some ad) c xs x.f0 q _ (Kd.C_below HR.out B5.out) hc K4.out).mono ?_; rintro e w6 ⟨rfl, hb6⟩; have B6 := Lib.hid (below_step B5.out (by first | exact hb6 | exact below_drawn hb6)); clear hb6))
     go_roundw
     case rel =>
      refine ⟨kk + 1, by omega, by go_num, B6, ND, Lib.hid (fun j y hj hlt' => ?_)⟩
      rcases Nat.lt_or_ge j kk with h1 | h1
      ·exact OW.out j y hj h1
      ·obtain rfl : j = kk := by omega
       rw [HX.out] at hj
       injection hj with hj
       rw [← hj]
       exact OK.out
     case measure =>
      simp only [cntV]
      omega
    ·have e1 : (q == (kk : Int)) = false := by simpa using hq
     have ND := Lib.hid (fun h : okS xs => not_nodup HX.out (Classical.not_not.1 (fun hn => hq (PI.out.2 hn))) h.2)
     clear hq
     go_wp2_with (first | (go_at_call 29; refine (right5_calls x A3 c3 A4 c4 _ HG.out ZX.out).mono ?_; rw [OK.out]; rintro e w5 ⟨rfl, hb5⟩; have B5 := Lib.hid (below_step BW.out hb5); replace y0 := pw_cell_below hb5 y0; clear hb5) | (go_at_call 30; refine (chancelref06_Place.calls k4 (some ad) c xs x.f0 q _ (Kd.C_below HR.out B5.out) hc K4.out).mono ?_; rintro e w6 ⟨rfl, hb6⟩; have B6 := Lib.hid (below_step B5.out (by first | exact hb6 | exact below_drawn hb6)); clear hb6))
     go_ret
     exact ⟨false, rfl, ⟨(fun h => by cases h), (fun h => absurd h ND.out)⟩, B6.out⟩
  ·have d1 : decide ((kk : Int) < (xs.length : Int)) = false := by simp; omega
   obtain rfl : kk = xs.length := by omega
   rw [List.take_length] at NW
   have OA : okS xs := ⟨fun x hx => by
    obtain ⟨j, hj⟩ := List.getElem?_of_mem hx
    exact OW.out j x hj (List.getElem?_eq_some_iff.1 hj).1, NW.out⟩
   have OAH := Lib.hid OA
   clear OA
   go_wp2
   go_ret
   exact ⟨true, rfl, ⟨fun _ => OAH.out, fun _ => rfl⟩, BW.out⟩
end Go.Proofs.YtlcfhmnjdkhkoaaDoor.Seg
/- What the plain functions of the law answer: Same of a document and itself. -/
namespace Go.Proofs.YtlcfhmnjdkhkoaaDoor.Seg
open Go.RowKit Go.Proofs.YtlcfhmnjdkhkoaaDoorPl Go.Proofs.YtlcfhmnjdkhkoaaDoorW.PrintWords Go.Proofs.YtlcfhmnjdkhkoaaDoorW.PrintLast Go.Proofs.YtlcfhmnjdkhkoaaDoorW.PrintMore Go.Proofs.YtlcfhmnjdkhkoaaDoor.Rope Go.Proofs.YtlcfhmnjdkhkoaaDoor.PViewRuns Go.Proofs.YtlcfhmnjdkhkoaaDoor.Pure
set_option linter.unusedVariables false
set_option linter.unusedSimpArgs false
end Go.Proofs.YtlcfhmnjdkhkoaaDoor.Seg
/- What the law's Small answers, in plain Lean. -/
namespace Go.Proofs.YtlcfhmnjdkhkoaaDoor.Seg
open Go.RowKit Go.Proofs.YtlcfhmnjdkhkoaaDoorPl Go.Proofs.YtlcfhmnjdkhkoaaDoorW.PrintWords Go.Proofs.YtlcfhmnjdkhkoaaDoorW.PrintLast Go.Proofs.YtlcfhmnjdkhkoaaDoorW.PrintMore Go.Proofs.YtlcfhmnjdkhkoaaDoor.Rope Go.Proofs.YtlcfhmnjdkhkoaaDoor.PViewRuns Go.Proofs.YtlcfhmnjdkhkoaaDoor.Pure
set_option linter.unusedVariables false
set_option linter.unusedSimpArgs false
theorem small_l0 (xs : List G) (hn : xs.length ≤ 2932031007402) (hz : ∀ x ∈ xs, x.f2.size ≤ 140737488355328 ∧ x.f3.length ≤ 140737488355328 ∧ x.f4.length ≤ 140737488355328) : ∀ (e i : Nat) (n : Int), xs.length - i = e → i ≤ xs.length → 0 ≤ n → n ≤ 3000 →
  ∃ b, Ev (fun k => chancellaw06_Small.l0 k xs n xs (xs.length : Int) (i : Int)) b ∧ (b = true → xs.length ≤ 40 ∧ ∀ (j : Nat) x, i ≤ j → xs[j]? = some x → x.f2.size ≤ 3000 ∧ x.f3.length ≤ 3000 ∧ x.f4.length ≤ 3000)
 | 0, i, n, he, hi, h0, h1 => by
  refine ⟨decide ((xs.length : Int) ≤ 40), ev_next (f := fun _ => some (decide ((xs.length : Int) ≤ 40))) (fun k => by simp only [chancellaw06_Small.l0]; rw [if_neg (by omega)]) (Ev.now _), fun h => ⟨by have := of_decide_eq_true h; omega, fun j x hj hx => ?_⟩⟩
  have := (List.getElem?_eq_some_iff.1 hx).1
  omega
 | e + 1, i, n, he, hi, h0, h1 => by
  obtain ⟨x, hx⟩ : ∃ x, xs[i]? = some x := ⟨_, List.getElem?_eq_getElem (by omega)⟩
  obtain ⟨z2, z3, z4⟩ := hz x (List.mem_of_getElem? hx)
  have W1 := Lib.hid (wrap_succ (i := i) (by omega))
  obtain ⟨q, hq⟩ : ∃ q : Int, q = n + ((x.f2.size : Int) + (x.f3.length : Int) + (x.f4.length : Int)) := ⟨_, rfl⟩
  have W2 : Hid (wrap64 (n + (wrap64 ((wrap64 ((x.f2.size : Int) + (x.f3.length : Int))) + (x.f4.length : Int)))) = q) := Lib.hid (by rw [wrap_id (x := (x.f2.size : Int) + (x.f3.length : Int)) (by omega) (by omega), wrap_id (x := (x.f2.size : Int) + (x.f3.length : Int) + (x.f4.length : Int)) (by omega) (by omega), wrap_id (by omega) (by omega), hq])
  by_cases c : q > 3000
  ·refine ⟨false, ev_next (f := fun _ => some false) (fun k => ?_) (Ev.now _), (fun h => by cases h)⟩
   simp only [chancellaw06_Small.l0, rd_G hx]
   rw [if_pos (by omega), if_pos (by omega), if_pos (by omega), W2.out, if_pos c]
  ·obtain ⟨b, hb, hs⟩ := small_l0 xs hn hz e (i + 1) q (by omega) (by omega) (by omega) (by omega)
   refine ⟨b, ev_next (fun k => ?_) hb, fun h => ⟨(hs h).1, fun j y hj hy => ?_⟩⟩
   ·simp only [chancellaw06_Small.l0, rd_G hx]
    rw [if_pos (by omega), if_pos (by omega), if_pos (by omega), W2.out, if_neg c, W1.out]
   ·rcases Nat.lt_or_ge i j with h2 | h2
    ·exact (hs h).2 j y h2 hy
    ·obtain rfl : j = i := by omega
     rw [hx] at hy
     injection hy with hy
     rw [← hy]
     omega
theorem smallS_ev (xs : List G) (hn : xs.length ≤ 2932031007402) (hz : ∀ x ∈ xs, x.f2.size ≤ 140737488355328 ∧ x.f3.length ≤ 140737488355328 ∧ x.f4.length ≤ 140737488355328) : ∃ b, Ev (fun k => chancellaw06_Small.f k xs) b ∧ (b = true → xs.length ≤ 40 ∧ ∀ x ∈ xs, Sz x) := by
 obtain ⟨b, hb, h⟩ := small_l0 xs hn hz _ 0 0 rfl (by omega) (by omega) (by omega)
 refine ⟨b, hb, fun hbt => ⟨(h hbt).1, fun x hx => ?_⟩⟩
 obtain ⟨j, hj⟩ := List.getElem?_of_mem hx
 obtain ⟨h2, h3, h4⟩ := (h hbt).2 j x (by omega) hj
 exact ⟨by omega, by omega, by omega⟩
end Go.Proofs.YtlcfhmnjdkhkoaaDoor.Seg
