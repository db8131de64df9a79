/- The walk of the law SheetAfter: it answers true. Conditions: the sizes that every row has; Go's two tables of utf8 as they are laid. -/
import Derived.Test.YtkkjebjlgcggcaaDoorGF
import Derived.Test.YtkkjebjlgcggcaaDoorGE
namespace Go.Proofs.YtkkjebjlgcggcaaDoor.Seg
open Go.RowKit Go.Proofs.YtkkjebjlgcggcaaDoorPl Go.Maps Go.Proofs.YtkkjebjlgcggcaaDoorW.PrintWords Go.Proofs.YtkkjebjlgcggcaaDoorW.PrintLast Go.Proofs.YtkkjebjlgcggcaaDoorW.PrintMore Go.Proofs.YtkkjebjlgcggcaaDoor.Rope Go.Proofs.YtkkjebjlgcggcaaDoor.PSheetAfter Go.Proofs.YtkkjebjlgcggcaaDoor.Pure
set_option linter.unusedVariables false
set_option linter.unusedSimpArgs false
theorem gen_qS {Γ : Prop} {W W' : World} {g : Nat} (h : W.heap[g]? = some (.cells #[.bool false, .slice none 0 0] 25 (0, 0))) (hb : Below W.heap.size W W') (k : Hid (W'.heap[g]? = some (.cells #[.bool false, .slice none 0 0] 25 (0, 0))) → Γ) : Γ := k (Lib.hid (blk_below h hb))
theorem QAf.ofb {V W : World} {g : Nat} {f : Bool} {A : Option Addr} {n c : Nat} (h : V.heap[g]? = some (.cells #[.bool f, .slice A n c] 25 (0, 0))) (hb : Below V.heap.size V W) : QAf V g f A n c W := ⟨blk_cell (blk_below h hb) 0, blk_cell (blk_below h hb) 1, hb⟩
theorem two_p1 : plc [t1, t2] 1 [t1, t2].length 0 = ((0 : Nat) : Int) := by decide
def zs0 : List G := [t1, t2].take (0 + 1) ++ ([nG 5 0] ++ ([t1, t2].drop (0 + 1) ++ []))
theorem zs0_tw : twB zs0 = false ∧ (false = true → zs0 = [t1, t2]) ∧ (false = false → zs0 = zs0) := ⟨by decide, (fun h => by cases h), fun _ => rfl⟩
theorem zs0_wf : ∀ x ∈ [t1, t2].take (0 + 1) ++ ([nG 5 0] ++ ([t1, t2].drop (0 + 1) ++ [])), (Lit.int .i64 x.f0).wf = true := by decide
theorem sgs_new (w : World) : Sgs w [[.int .i64 5, .int .i64 0, .pointer none, .slice none 0 0, .slice none 0 0]] [nG 5 0] := by
 refine ⟨rfl, fun j cs x h1 h2 => ?_⟩
 cases j with
 | succ j => simp at h1
 | zero =>
  simp only [List.getElem?_cons_zero, Option.some.injEq] at h1 h2
  subst h1; subst h2
  exact ⟨none, none, 0, none, 0, rfl, nG_sp 5 0 w⟩
/-- What holds where a sheet is kept. -/
structure FA (w : World) (g7 : Nat) (f : Bool) (A : Option Addr) (c : Nat) (xss : List (List Value)) (xs : List G) (W : World) : Prop where
 b : Below w.heap.size w W
 h7 : W.heap[g7]? = some (.cells #[.bool f, .slice A xss.length c] 25 (0, 0))
 s : Sh W A c xss xs
theorem FA.next {w W W' : World} {g7 : Nat} {f : Bool} {A : Option Addr} {c : Nat} {xss : List (List Value)} {xs : List G} (h : FA w g7 f A c xss xs W) (hb : Below W.heap.size W W') : FA w g7 f A c xss xs W' :=
 ⟨below_step h.b hb, blk_below h.h7 hb, h.s.below hb⟩
/-- What holds all along the loop. -/
structure LA (w : World) (g7 : Nat) (A : Option Addr) (c : Nat) (xss : List (List Value)) (xs : List G) (v : Value) (ass : List (List Value)) (as_ : List G) (W : World) : Prop where
 fa : FA w g7 true A c xss xs W
 row : Kd.R kQ 45 W w.heap.size (fun _ => True) v ass
 sgs : Sgs W ass as_
 ne : ∀ ad, A = some ad → some ad.block ≠ v.ownBlock
theorem LA.next {w W W' : World} {g7 : Nat} {A : Option Addr} {c : Nat} {xss : List (List Value)} {xs : List G} {v : Value} {ass : List (List Value)} {as_ : List G} (h : LA w g7 A c xss xs v ass as_ W) (hb : Below W.heap.size W W') : LA w g7 A c xss xs v ass as_ W' :=
 ⟨h.fa.next hb, Kd.R_below h.row hb, h.sgs.below hb, h.ne⟩
theorem LA.more {w W W' : World} {g7 : Nat} {A : Option Addr} {c : Nat} {xss : List (List Value)} {xs : List G} {v v' : Value} {ass : List (List Value)} {as_ : List G} {cs : List Value} {y : G} (h : LA w g7 A c xss xs v ass as_ W) (hy : SgV W cs y) (ho : Kd.R kQ 45 W' w.heap.size (fun _ => True) v' (ass ++ [cs])) (hg : W.grownBy W' v.ownBlock) (hb : Below w.heap.size w W') (hat : v'.ownBlock = v.ownBlock ∨ ∃ b, v'.ownBlock = some b ∧ W.heap.size ≤ b) : LA w g7 A c xss xs v' (ass ++ [cs]) (as_ ++ [y]) W' := by
 have m := fun {t : TypeId} (ht : t ≠ 45) => R_typeQ h.row hg ht
 refine ⟨⟨hb, (m (by decide) _ _ h.fa.h7).trans h.fa.h7, ?_⟩, ho, ?_, ?_⟩
 ·have e := fun ad (ea : A = some ad) => h.fa.s.ty ad ea
  have hm : ∀ ad, A = some ad → W'.heap[ad.block]? = W.heap[ad.block]? := fun ad ea => by
   obtain ⟨cs, hc⟩ := e ad ea
   exact hg.block _ (blk_lt hc) (h.ne ad ea)
  exact ⟨h.fa.s.len, h.fa.s.cap, C_moveK (fun _ _ => kQ_any) h.fa.s.row hm, h.fa.s.sgs.move (m (by decide)) (m (by decide)) (m (by decide)), fun ad ea => by obtain ⟨cs, hc⟩ := e ad ea; exact ⟨cs, (hm ad ea).trans hc⟩⟩
 ·exact (h.sgs.snoc hy).move (m (by decide)) (m (by decide)) (m (by decide))
 ·intro ad ea
  obtain ⟨cs, hc⟩ := h.fa.s.ty ad ea
  have hlt := blk_lt hc
  rcases hat with h1 | ⟨b, h1, h2⟩
  ·rw [h1]; exact h.ne ad ea
  ·rw [h1]
   intro h3
   injection h3 with h3
   omega
set_option maxRecDepth 1000000 in
set_option maxHeartbeats 64000000 in
theorem sheetAfter_walk (A : Option Addr) (c : Nat) (xs : List G) (id : Int) (A2 : Option Addr) (c2 : Nat) (ys : List G) (w : World) (hT : Tabs w) (hr : Kd.C kG w A xs.length xs) (hc : xs.length ≤ c) (hn : xs.length ≤ 2932031007402) (hz : ∀ x ∈ xs, x.f2.size ≤ 140737488355328 ∧ x.f3.length ≤ 140737488355328 ∧ x.f4.length ≤ 140737488355328) (hwf : ∀ x ∈ xs, (Lit.int .i64 x.f0).wf = true)
  (hry : Kd.C kG w A2 ys.length ys) (hcy : ys.length ≤ c2) (hny : ys.length ≤ 2932031007402) (hzy : ∀ x ∈ ys, x.f2.size ≤ 140737488355328 ∧ x.f3.length ≤ 140737488355328 ∧ x.f4.length ≤ 140737488355328) (hwfy : ∀ x ∈ ys, (Lit.int .i64 x.f0).wf = true) :
  Calls Tryd.prog 5 #[.slice A xs.length c, .int .i64 id, .slice A2 ys.length c2] w fun e w' => e = .returned (.bool true) ∧ Below w.heap.size w w' := by
 obtain ⟨bs, hbs, hsm⟩ := smallS_ev xs hn hz
 obtain ⟨k1, hk1⟩ := Go.Proofs.YtkkjebjlgcggcaaDoorW.PrintWords.Ev.rounds hbs
 obtain ⟨by_, hby, hsy⟩ := smallS_ev ys hny hzy
 obtain ⟨k2, hk2⟩ := Go.Proofs.YtkkjebjlgcggcaaDoorW.PrintWords.Ev.rounds hby
 obtain ⟨k0, hk0⟩ := Go.Proofs.YtkkjebjlgcggcaaDoorW.PrintWords.Ev.rounds (ints_ev [1, 5, 2] (by decide))
 have HT := Lib.hid hT
 have HR := Lib.hid hr
 have HRY := Lib.hid hry
 have K0 := Lib.hid hk0
 have K1 := Lib.hid hk1
 have K2 := Lib.hid hk2
 have SM := Lib.hid hsm
 have SY := Lib.hid hsy
 have WF := Lib.hid hwf
 have WFY := Lib.hid hwfy
 clear hT hr hz hbs hk1 hsm hwf hry hzy hwfy hby hk2 hsy hk0
 go_enter Tryd.func5, Tryd.ntmps5
 go_wp2_with fail
 (go_at_call 8; refine (two_calls _).mono ?_; rintro e w1 ⟨A1, c1, rfl, hC1, hb1⟩)
 have B1 := Lib.hid hb1
 have C1 := Lib.hid hC1
 clear hb1 hC1
 go_wp2_with fail
 (go_at_call 7; refine (shLoad_good false A1 c1 [t1, t2] _ (HT.out.below B1.out) C1.out two_sz (by decide) two_wf two_ok).mono ?_; rintro e w2 ⟨A3, c3, xss3, rfl, hs2, hb2⟩)
 have S2 := Lib.hid hs2
 have B2_ := Lib.hid (below_step B1.out hb2)
 have L2 := Lib.hid hs2.len
 clear hs2 hb2 C1 B1
 go_upto_region 2 with (first | ((with_reducible refine gate_dst (N := 7) rfl ?_); refine box_event ?hg (N := 7) ?hd (cs := #[.bool false, .slice none 0 0]) (t := 25) ?hr ?_; (case hd => rfl); (case hg => rfl); (case hr => first | (go_simp; done) | (go_simp; rfl)); intro gS hgS wS hxS hbS; have GA := Lib.hid (show w.heap.size ≤ gS by rw [hgS]; exact B2_.out.size); have GB := Lib.hid (show w2.heap.size ≤ gS by rw [hgS]; exact Nat.le_refl _); have BA := Lib.hid hbS; have XA := Lib.hid hxS; have q0 := (blk_cell hxS 0).trans rfl; have q1 := (blk_cell hxS 1).trans rfl; have z0 := blk_frozen hxS 0; have z1 := blk_frozen hxS 1; clear hgS hxS hbS))
 refine gen2 (φ := fun W => Code.wp _ _ _ _ W) (P := fun W => FA w gS false A3 c3 xss3 [t1, t2] W) ⟨below_set (below_set (below_step B2_.out BA.out) GA.out) GA.out, by simpa using blk_set (blk_set XA.out 0 (.bool false)) 1 (.slice A3 xss3.length c3), S2.out.below (below_set (below_set BA.out GB.out) GB.out)⟩ ?_
 rintro V hV
 have PV := Lib.hid hV
 have HV := Lib.hid hV.h7
 have GS := GA
 clear hV q0 q1 z0 z1 XA BA GA GB S2 B2_
 have HL : Hid (xss3.length ≤ 1099511627776) := Lib.hid (by rw [← L2.out]; decide)
 have HL2 : Hid (xss3.length + (1 + xss3.length) ≤ 1099511627776) := Lib.hid (by rw [← L2.out]; decide)
 have QS := Lib.hid (QAf.ofb HV.out (Below.refl _ _))
 go_region_held3 (fun w' => QAf V gS false A3 xss3.length c3 w')
  (first | (with_reducible assumption) | (with_reducible exact HS1.out) | (with_reducible exact HS2.out) | (with_reducible exact QAf.next HS1.out (below_alloc (Below.refl _ _) _)) | (with_reducible exact QAf.next HS1.out (below_alloc (below_alloc (Below.refl _ _) _) _)) | (with_reducible exact QAf.next HS2.out (below_alloc (Below.refl _ _) _)) | (with_reducible exact QAf.ofb HV.out (below_set (below_set (QAf.b HS2.out) GE2.out) GE2.out)) | (with_reducible exact QAf.ofb HV.out (below_set (below_set (below_alloc (QAf.b HS2.out) _) (QAf.b HS2.out).size) (QAf.b HS2.out).size)) | exact QS.out.next (by (with_reducible repeat (first | exact Below.refl _ _ | apply pw_below_drewN | apply Below.drew | apply below_alloc))))
  (first
   | (go_at_call 28; (with_reducible refine (segNew_calls 5 0 _).mono ?_); rintro e w27 ⟨rfl, hb27⟩; have HS1 := Lib.hid (QAf.next (V := V) (g := gS) (f := false) (A := A3) (n := xss3.length) (c := c3) (by assumption) hb27); (first | (refine gen_qS (g := V.heap.size) ?hq1 hb27 (fun Q8 => ?_); (case hq1 => first | exact blk_newS rfl | exact blk_drew (blk_newS rfl))) | skip); clear hb27)
   | (go_at_call 27; (refine (after_hit false A3 c3 xss3 [t1, t2] 1 _ 1 [[.int .i64 5, .int .i64 0, .pointer none, .slice none 0 0, .slice none 0 0]] [nG 5 0] 0 t1 _ ?h1 HL.out two_p1 rfl ?h2 (sgs_new _) HL2.out zs0_wf zs0 rfl false zs0 zs0_tw).mono ?_); (case h1 => exact PV.out.s.below (QAf.b (V := V) (g := gS) (f := false) (A := A3) (n := xss3.length) (c := c3) (by assumption))); (case h2 => exact C_oneQ one5 (by first | exact blk_newS rfl | exact blk_drew (blk_newS rfl) | exact blk_newS (by simp) | exact blk_alloc (blk_newS rfl) _ | exact blk_drew (blk_alloc (blk_newS rfl) _) | exact blk_alloc Q8.out _ | exact blk_drew (blk_alloc Q8.out _) | exact Q8.out | exact blk_drew Q8.out)); rintro e w29 ⟨A9, c9, yss9, rfl, hs29, hb29⟩; have HS2 := Lib.hid (QAf.next (V := V) (g := gS) (f := false) (A := A3) (n := xss3.length) (c := c3) (by assumption) hb29); have S29 := Lib.hid hs29; (first | (refine gen_qS (g := V.heap.size) ?hq2 hb29 (fun Q9 => ?_); (case hq2 => first | exact blk_alloc Q8.out _ | exact blk_drew (blk_alloc Q8.out _)); have GE2 := Lib.hid (Nat.le_refl V.heap.size); have q0 := (blk_cell Q9.out 0).trans rfl; have q1 := (blk_cell Q9.out 1).trans rfl; have z0 := blk_frozen Q9.out 0; have z1 := blk_frozen Q9.out 1) | (refine gen_qS (g := w27.heap.size) ?hq3 hb29 (fun Q9 => ?_); (case hq3 => first | exact blk_alloc (blk_newS rfl) _ | exact blk_drew (blk_alloc (blk_newS rfl) _)); have GE2 := Lib.hid (QAf.b HS1.out).size; have q0 := (blk_cell Q9.out 0).trans rfl; have q1 := (blk_cell Q9.out 1).trans rfl; have z0 := blk_frozen Q9.out 0; have z1 := blk_frozen Q9.out 1) | (refine gen_qS (g := w27.heap.size + 1) ?hq4 hb29 (fun Q9 => ?_); (case hq4 => first | exact blk_newS (by simp) | exact blk_drew (blk_newS (by simp))); have GE2 := Lib.hid (Nat.le_succ_of_le (QAf.b HS1.out).size); have q0 := (blk_cell Q9.out 0).trans rfl; have q1 := (blk_cell Q9.out 1).trans rfl; have z0 := blk_frozen Q9.out 0; have z1 := blk_frozen Q9.out 1) | skip); clear hs29 hb29))
 all_goals
  first
  | (refine gen2 (φ := fun W => Exit.then _ _ Exit.normal _ W) (P := fun W => FA w gS false A3 c3 xss3 [t1, t2] W ∧ FA w (V.heap.size) false A9 c9 yss9 zs0 W) ⟨PV.out.next (below_set (below_set (QAf.b HS2.out) GE2.out) GE2.out), ⟨below_step PV.out.b (below_set (below_set (QAf.b HS2.out) GE2.out) GE2.out), (by simpa using blk_set (blk_set Q9.out 0 (.bool false)) 1 (.slice A9 yss9.length c9)), (S29.out.set Q9.out 0 _).set (blk_set Q9.out 0 _) 1 _⟩⟩ ?_; generalize V.heap.size = g9)
  | (refine gen2 (φ := fun W => Exit.then _ _ Exit.normal _ W) (P := fun W => FA w gS false A3 c3 xss3 [t1, t2] W ∧ FA w (w27.heap.size) false A9 c9 yss9 zs0 W) ⟨PV.out.next (below_set (below_set (QAf.b HS2.out) GE2.out) GE2.out), ⟨below_step PV.out.b (below_set (below_set (QAf.b HS2.out) GE2.out) GE2.out), (by simpa using blk_set (blk_set Q9.out 0 (.bool false)) 1 (.slice A9 yss9.length c9)), (S29.out.set Q9.out 0 _).set (blk_set Q9.out 0 _) 1 _⟩⟩ ?_; generalize w27.heap.size = g9)
  | (refine gen2 (φ := fun W => Exit.then _ _ Exit.normal _ W) (P := fun W => FA w gS false A3 c3 xss3 [t1, t2] W ∧ FA w (w27.heap.size + 1) false A9 c9 yss9 zs0 W) ⟨PV.out.next (below_set (below_set (QAf.b HS2.out) GE2.out) GE2.out), ⟨below_step PV.out.b (below_set (below_set (QAf.b HS2.out) GE2.out) GE2.out), (by simpa using blk_set (blk_set Q9.out 0 (.bool false)) 1 (.slice A9 yss9.length c9)), (S29.out.set Q9.out 0 _).set (blk_set Q9.out 0 _) 1 _⟩⟩ ?_; generalize w27.heap.size + 1 = g9)
  | (refine gen2 (φ := fun W => Exit.then _ _ Exit.normal _ W) (P := fun W => FA w gS false A3 c3 xss3 [t1, t2] W ∧ FA w (w29.heap.size) false A9 c9 yss9 zs0 W) ⟨PV.out.next (below_alloc (QAf.b HS2.out) _), ⟨below_step PV.out.b (below_alloc (QAf.b HS2.out) _), blk_newS rfl, S29.out.below (below_alloc (Below.refl _ _) _)⟩⟩ ?_; generalize w29.heap.size = g9)
  rintro U ⟨hU1, hU2⟩
  have P1 := Lib.hid hU1
  have P9 := Lib.hid hU2
  have y0 := (blk_cell hU2.h7 0).trans rfl
  have y1 := (blk_cell hU2.h7 1).trans rfl
  clear hU1 hU2
  go_wp2_with fail
  (go_at_call 11; refine (ids_calls false A9 c9 yss9 zs0 _ P9.out.s (by rw [← P9.out.s.len]; decide)).mono ?_; rintro e w31 ⟨v31, rfl, hr31, hb31⟩)
  have P2 := Lib.hid (P1.out.next hb31)
  obtain ⟨A31, c31, e31, hc31, hC31⟩ := Kd.R_reads hr31
  have e31' : v31 = .slice A31 3 c31 := e31
  subst e31'
  have C31 := Lib.hid (show Kd.C (Kd.int .i64) w31 A31 [1, 5, 2].length [1, 5, 2] from hC31)
  clear hb31 hr31 hC31 e31 y0 y1 P1 P9
  go_wp2_with fail
  have C32 : Hid (Kd.C (Kd.int .i64) (w31.alloc (.cells #[.int .i64 1, .int .i64 5, .int .i64 2] 3)) (some ⟨w31.heap.size, 0, none⟩) [1, 5, 2].length [1, 5, 2]) := Lib.hid (C_ints (by decide) (blk_new w31 _))
  have P3 := Lib.hid (P2.out.next (below_alloc (Below.refl _ _) (.cells #[.int .i64 1, .int .i64 5, .int .i64 2] 3)))
  (go_at_call 10; refine (chancelref03_Ints.calls k0 A31 c31 [1, 5, 2] (some ⟨w31.heap.size, 0, none⟩) 3 [1, 5, 2] true _ (Kd.C_below C31.out (below_alloc (Below.refl _ _) _)) hc31 C32.out (Nat.le_refl _) K0.out).mono ?_; rintro e w32 ⟨rfl, hb32⟩)
  have P4 := Lib.hid (P3.out.next (below_drawn hb32))
  clear hb32 C31 C32 P2 P3
  go_wp2_with fail
  (go_at_call 12; refine (chancellaw06_Small.calls k1 A c xs bs _ (Kd.C_below HR.out P4.out.b) hc K1.out).mono ?_; rintro e w33 ⟨rfl, hb33⟩)
  have P5 := Lib.hid (P4.out.next hb33)
  clear hb33 P4
  cases bs with
  | false =>
   go_wp2
   go_ret
   exact ⟨rfl, P5.out.b⟩
  | true =>
   obtain ⟨hl40, hz2⟩ := SM.out rfl
   have hn2 : xs.length ≤ 1099511627776 := by omega
   have HZ := Lib.hid hz2
   have L40 := Lib.hid hl40
   clear hz2 hl40
   go_wp2_with fail
   (go_at_call 13; refine (right6_calls A c xs _ (Kd.C_below HR.out P5.out.b) hc HZ.out hn2).mono ?_; rintro e w34 ⟨b34, rfl, hi34, hb34⟩)
   have P6 := Lib.hid (P5.out.next hb34)
   clear hb34 P5
   cases b34 with
   | false =>
    go_wp2
    go_ret
    exact ⟨rfl, P6.out.b⟩
   | true =>
    have OK := Lib.hid (hi34.1 rfl)
    clear hi34
    go_wp2_with fail
    (go_at_call 12; refine (chancellaw06_Small.calls k2 A2 c2 ys by_ _ (Kd.C_below HRY.out P6.out.b) hcy K2.out).mono ?_; rintro e w35 ⟨rfl, hb35⟩)
    have P7 := Lib.hid (P6.out.next hb35)
    clear hb35 P6
    cases by_ with
    | false =>
     go_wp2
     go_ret
     exact ⟨rfl, P7.out.b⟩
    | true =>
     obtain ⟨hy40, hzy2⟩ := SY.out rfl
     have HZY := Lib.hid hzy2
     have Y40 := Lib.hid hy40
     clear hzy2 hy40
     go_wp2_with fail
     (go_at_call 7; refine (shLoad_good true A c xs _ (HT.out.below P7.out.b) (Kd.C_below HR.out P7.out.b) HZ.out hn2 WF.out OK.out).mono ?_; rintro e w36 ⟨A6, c6, xss, rfl, hs36, hb36⟩)
     have P8 := Lib.hid (P7.out.next hb36)
     have S36 := Lib.hid hs36
     have LN := Lib.hid hs36.len
     have y0 := (blk_cell P8.out.h7 0).trans rfl
     have y1 := (blk_cell P8.out.h7 1).trans rfl
     have f0 := blk_frozen P8.out.h7 0
     have f1 := blk_frozen P8.out.h7 1
     clear hb36 hs36 P7
     go_upto_region 9 with (fail)
     refine gen2 (φ := fun W => Code.wp _ _ _ _ W) (P := fun W => FA w gS true A6 c6 xss xs W) ⟨below_set (below_set P8.out.b GS.out) GS.out, by simpa using blk_set (blk_set P8.out.h7 0 (.bool true)) 1 (.slice A6 xss.length c6), (S36.out.set P8.out.h7 0 _).set (blk_set P8.out.h7 0 _) 1 _⟩ ?_
     clear y0 y1 f0 f1 P8 S36
     rintro V2 hV2
     have LV := Lib.hid (show LA w gS A6 c6 xss xs (.slice none 0 0) [] [] V2 from ⟨hV2, Kd.R_nil _ _ _ _ _, ⟨rfl, fun j cs x h => by simp at h⟩, fun ad _ e => by cases e⟩)
     clear hV2
     go_wp2
     go_loopw [61, 11] (fun s61 s11 wr => ∃ (kk : Nat) (v : Value) (ass : List (List Value)), kk ≤ ys.length ∧ s61 = .int .i64 (kk : Int) ∧ v = s11 ∧ Hid (LA w gS A6 c6 xss xs v ass (ys.take kk) wr)) (fun s61 _ _ => ys.length - cntV s61)
     case atStart => exact ⟨0, _, _, Nat.zero_le _, rfl, rfl, by simpa using LV⟩
     case round =>
      obtain ⟨kk, v, ass, hkk, rfl, ev, LW⟩ := hrel
      subst ev
      by_cases hlt : kk < ys.length
      ·have d1 : decide ((kk : Int) < (ys.length : Int)) = true := by simp; omega
       have b1 : (0 : Int) ≤ (kk : Int) := by omega
       have b2 : (kk : Int) < (ys.length : Int) := by omega
       obtain ⟨y, hy⟩ : ∃ y, ys[kk]? = some y := ⟨_, List.getElem?_eq_getElem hlt⟩
       have ZY := Lib.hid (HZY.out y (List.mem_of_getElem? hy))
       obtain ⟨ad, A13, c13, A14, c14, e0, y0, y1, y2, y3, y4, hgr⟩ := at_G (Kd.C_below HRY.out LW.out.fa.b) hy hlt
       subst e0
       have HG := Lib.hid hgr
       have HY := Lib.hid hy
       clear hgr hy
       go_upto_region 12 with (first | ((with_reducible refine gate_dst (N := 13) rfl ?_); refine box_event ?hg (N := 13) ?hd (cs := #[.int .i64 0, .int .i64 0, .string ByteArray.empty, .slice none 0 0, .slice none 0 0]) (t := 40) ?hr ?_; (case hd => rfl); (case hg => rfl); (case hr => first | (go_simp; done) | (go_simp; rfl)); intro gA hgA wA hxA hbA; have GA := Lib.hid (show wr.heap.size ≤ gA by rw [hgA]; exact Nat.le_refl _); have BA := Lib.hid hbA; have XA := Lib.hid hxA; have q0 := (blk_cell hxA 0).trans rfl; have q1 := (blk_cell hxA 1).trans rfl; have q2 := (blk_cell hxA 2).trans rfl; have q3 := (blk_cell hxA 3).trans rfl; have q4 := (blk_cell hxA 4).trans rfl; have z0 := blk_frozen hxA 0; have z1 := blk_frozen hxA 1; have z2 := blk_frozen hxA 2; have z3 := blk_frozen hxA 3; have z4 := blk_frozen hxA 4; clear hgA hxA hbA))
       refine gen2 (φ := fun W => Code.wp _ _ _ _ W) (P := fun W => Below wr.heap.size wr W ∧ W.heap[gA]? = some (.cells (gC y A13 c13 A14 c14) 40 (0, 0)))
        ⟨below_set (below_set (below_set (below_set (below_set BA.out GA.out) GA.out) GA.out) GA.out) GA.out, by simpa using blk_set (blk_set (blk_set (blk_set (blk_set XA.out 0 (.int .i64 y.f0)) 1 (.int .i64 y.f1)) 2 (.string y.f2)) 3 (.slice A13 y.f3.length c13)) 4 (.slice A14 y.f4.length c14)⟩ ?_
       clear q0 q1 q2 q3 q4 z0 z1 z2 z3 z4 XA BA GA y0 y1 y2 y3 y4
       rintro V5 ⟨hb5, hx5⟩
       have L5 := Lib.hid (LW.out.next hb5)
       have G5 := Lib.hid (HG.out.below hb5)
       have a0 := (blk_cell hx5 0).trans rfl
       have a1 := (blk_cell hx5 1).trans rfl
       have a2 := (blk_cell hx5 2).trans rfl
       have a3 := (blk_cell hx5 3).trans rfl
       have a4 := (blk_cell hx5 4).trans rfl
       clear hb5 hx5 HG LW
       cases hok : okB y with
       | false =>
        have OKY := Lib.hid hok
        clear hok
        go_wp2_with fail
        (go_at_call 24; refine (segLoad_bad y A13 c13 A14 c14 _ (HT.out.below L5.out.fa.b) G5.out ZY.out OKY.out).mono ?_; rintro e w40 ⟨rfl, hb40⟩)
        have L6 := Lib.hid (L5.out.next hb40)
        clear hb40 L5 G5 a0 a1 a2 a3 a4
        go_upto_region 13 with (first | ((with_reducible refine gate_dst (N := 14) rfl ?_); refine box_event ?hg (N := 14) ?hd (cs := #[.int .i64 0, .int .i64 0, .pointer none, .slice none 0 0, .slice none 0 0]) (t := 45) ?hr ?_; (case hd => rfl); (case hg => rfl); (case hr => first | (go_simp; done) | (go_simp; rfl)); intro gB hgB wB hxB hbB; have GB := Lib.hid (show w40.heap.size ≤ gB by rw [hgB]; exact Nat.le_refl _); have BB := Lib.hid hbB; have XB := Lib.hid hxB; have q0 := (blk_cell hxB 0).trans rfl; have q1 := (blk_cell hxB 1).trans rfl; have q2 := (blk_cell hxB 2).trans rfl; have q3 := (blk_cell hxB 3).trans rfl; have q4 := (blk_cell hxB 4).trans rfl; have z0 := blk_frozen hxB 0; have z1 := blk_frozen hxB 1; have z2 := blk_frozen hxB 2; have z3 := blk_frozen hxB 3; have z4 := blk_frozen hxB 4; clear hgB hxB hbB))
        refine gen2 (φ := fun W => Code.wp _ _ _ _ W) (P := fun W => Below w40.heap.size w40 W ∧ W.heap[gB]? = some (.cells #[.int .i64 0, .int .i64 0, .pointer none, .slice none 0 0, .slice none 0 0] 45 (0, 0))) ⟨below_set (below_set (below_set (below_set (below_set BB.out GB.out) GB.out) GB.out) GB.out) GB.out, by simpa using blk_set (blk_set (blk_set (blk_set (blk_set XB.out 0 (.int .i64 0)) 1 (.int .i64 0)) 2 (.pointer none)) 3 (.slice none 0 0)) 4 (.slice none 0 0)⟩ ?_
        clear q0 q1 q2 q3 q4 z0 z1 z2 z3 z4 XB BB GB
        rintro V7 ⟨hbV7, hxV7⟩
        have L7 := Lib.hid (L6.out.next hbV7)
        clear hbV7 hxV7 L6
        go_wp2
        go_ret
        exact ⟨rfl, L7.out.fa.b⟩
       | true =>
        have OKY := Lib.hid hok
        clear hok
        go_wp2_with fail
        (go_at_call 24; refine (segLoad_good y A13 c13 A14 c14 _ (HT.out.below L5.out.fa.b) G5.out ZY.out OKY.out).mono ?_; rintro e w40 ⟨p, A15, c15, B15, d15, rfl, hs40, hb40⟩)
        have L6 := Lib.hid (L5.out.next hb40)
        have S6 := Lib.hid hs40
        clear hb40 hs40 L5 G5 a0 a1 a2 a3 a4
        go_upto_region 13 with (first | ((with_reducible refine gate_dst (N := 14) rfl ?_); refine box_event ?hg (N := 14) ?hd (cs := #[.int .i64 0, .int .i64 0, .pointer none, .slice none 0 0, .slice none 0 0]) (t := 45) ?hr ?_; (case hd => rfl); (case hg => rfl); (case hr => first | (go_simp; done) | (go_simp; rfl)); intro gB hgB wB hxB hbB; have GB := Lib.hid (show w40.heap.size ≤ gB by rw [hgB]; exact Nat.le_refl _); have BB := Lib.hid hbB; have XB := Lib.hid hxB; have q0 := (blk_cell hxB 0).trans rfl; have q1 := (blk_cell hxB 1).trans rfl; have q2 := (blk_cell hxB 2).trans rfl; have q3 := (blk_cell hxB 3).trans rfl; have q4 := (blk_cell hxB 4).trans rfl; have z0 := blk_frozen hxB 0; have z1 := blk_frozen hxB 1; have z2 := blk_frozen hxB 2; have z3 := blk_frozen hxB 3; have z4 := blk_frozen hxB 4; clear hgB hxB hbB))
        refine gen2 (φ := fun W => Code.wp _ _ _ _ W) (P := fun W => Below w40.heap.size w40 W ∧ W.heap[gB]? = some (.cells #[.int .i64 y.f0, .int .i64 y.f1, .pointer p, .slice A15 y.f3.length c15, .slice B15 y.f4.length d15] 45 (0, 0))) ⟨below_set (below_set (below_set (below_set (below_set BB.out GB.out) GB.out) GB.out) GB.out) GB.out, by simpa using blk_set (blk_set (blk_set (blk_set (blk_set XB.out 0 (.int .i64 y.f0)) 1 (.int .i64 y.f1)) 2 (.pointer p)) 3 (.slice A15 y.f3.length c15)) 4 (.slice B15 y.f4.length d15)⟩ ?_
        clear q0 q1 q2 q3 q4 z0 z1 z2 z3 z4 XB BB GB
        rintro V7 ⟨hbV7, hxV7⟩
        have L7 := Lib.hid (L6.out.next hbV7)
        have S7 := Lib.hid (S6.out.below hbV7)
        have a0 := (blk_cell hxV7 0).trans rfl
        have a1 := (blk_cell hxV7 1).trans rfl
        have a2 := (blk_cell hxV7 2).trans rfl
        have a3 := (blk_cell hxV7 3).trans rfl
        have a4 := (blk_cell hxV7 4).trans rfl
        have LM : Hid (ass.length = kk) := Lib.hid (by have := L7.out.sgs.1; rw [List.length_take] at this; omega)
        have TK := Lib.hid (takeG HY.out)
        clear hbV7 hxV7 L6 S6
        go_wp2_with (first | ((with_reducible refine gate_builtin (b := .append) (xs := #[.tmp 72, .tmp 74]) rfl ?_); at_builtin; go_must (refine Kd.R_append kQ (w0 := w) w.heap.size rfl (.tmp 72) (.tmp 74) 23 45 (.agg #[.int .i64 0, .int .i64 0, .pointer none, .slice none 0 0, .slice none 0 0]) 72 rfl Tryd.underlying23 infoC45 rfl (by decide) (by decide) v ass [.int .i64 y.f0, .int .i64 y.f1, .pointer p, .slice A15 y.f3.length c15, .slice B15 y.f4.length d15] [.int .i64 y.f0, .int .i64 y.f1, .pointer p, .slice A15 y.f3.length c15, .slice B15 y.f4.length d15] (fun _ => True) (fun _ => False) rfl rfl ⟨rfl, rfl, one5⟩ (fun _ hk => hk.elim) (fun _ _ => trivial) ?aO ?aB ?aS ?aL ?_); (case aO => exact L7.out.row); (case aB => exact L7.out.fa.b); (case aS => exact L7.out.fa.b.size); (case aL => have := LM.out; have := Y40.out; omega); intro v8 w8 ho8 hb8 hg8 hat8; have L8 := Lib.hid (L7.out.more ⟨p, A15, c15, B15, d15, rfl, S7.out⟩ ho8 hg8 hb8 hat8); clear ho8 hb8 hg8 hat8))
        go_roundw
        case rel => exact ⟨kk + 1, _, _, by omega, by go_num, rfl, by rw [TK.out]; exact L8⟩
        case measure =>
         simp only [cntV]
         omega
      ·have d1 : decide ((kk : Int) < (ys.length : Int)) = false := by simp; omega
       obtain rfl : kk = ys.length := by omega
       rw [List.take_length] at LW
       obtain ⟨A7, c7, e7⟩ := Kd.R_slice LW.out.row
       subst e7
       have C7 := Lib.hid (Kd.R_reads' LW.out.row)
       obtain ⟨bb, rs, hrl, hrz, hrev, hac⟩ := after_both xs ys id L40.out Y40.out OK.out.2 HZ.out HZY.out WF.out WFY.out
       obtain ⟨k5, hk5⟩ := Go.Proofs.YtkkjebjlgcggcaaDoorW.PrintWords.Ev.rounds hrev
       obtain ⟨k6, hk6⟩ := Go.Proofs.YtkkjebjlgcggcaaDoorW.PrintWords.Ev.rounds (same6_ev rs (by omega) hrz)
       obtain ⟨k7, hk7⟩ := Go.Proofs.YtkkjebjlgcggcaaDoorW.PrintWords.Ev.rounds (same6_ev xs hn2 HZ.out)
       have K5 := Lib.hid hk5
       have K6 := Lib.hid hk6
       have K7 := Lib.hid hk7
       have AC := Lib.hid hac
       have RL := Lib.hid hrl
       have RZ := Lib.hid hrz
       clear hrl hrz hrev hac hk5 hk6 hk7
       have y0 := (blk_cell LW.out.fa.h7 0).trans rfl
       have y1 := (blk_cell LW.out.fa.h7 1).trans rfl
       go_wp2_with fail
       (go_at_call 27; refine (AC.out true A6 c6 xss A7 c7 ass _ LW.out.fa.s C7.out.2.2 LW.out.sgs).mono ?_; rintro e w50 ⟨A50, c50, rss, rfl, hs50, hb50⟩)
       have P50 := Lib.hid (LW.out.fa.next hb50)
       have S50 := Lib.hid hs50
       have LR := Lib.hid hs50.len
       clear hb50 hs50 LW y0 y1 C7
       go_upto_region 18 with (first | ((with_reducible refine gate_dst (N := 16) rfl ?_); refine box_event ?hg (N := 16) ?hd (cs := #[.bool false, .slice none 0 0]) (t := 25) ?hr ?_; (case hd => rfl); (case hg => rfl); (case hr => first | (go_simp; done) | (go_simp; rfl)); intro gT hgT wT hxT hbT; have GA := Lib.hid (show w.heap.size ≤ gT by rw [hgT]; exact P50.out.b.size); have GB := Lib.hid (show w50.heap.size ≤ gT by rw [hgT]; exact Nat.le_refl _); have BA := Lib.hid hbT; have XA := Lib.hid hxT; have q0 := (blk_cell hxT 0).trans rfl; have q1 := (blk_cell hxT 1).trans rfl; have z0 := blk_frozen hxT 0; have z1 := blk_frozen hxT 1; clear hgT hxT hbT))
       refine gen2 (φ := fun W => Code.wp _ _ _ _ W) (P := fun W => FA w gS true A6 c6 xss xs W ∧ FA w gT true A50 c50 rss rs W) ⟨P50.out.next (below_set (below_set BA.out GB.out) GB.out), ⟨below_set (below_set (below_step P50.out.b BA.out) GA.out) GA.out, by simpa using blk_set (blk_set XA.out 0 (.bool true)) 1 (.slice A50 rss.length c50), S50.out.below (below_set (below_set BA.out GB.out) GB.out)⟩⟩ ?_
       clear q0 q1 z0 z1 XA BA GA GB S50 P50
       rintro V8 ⟨h8, h9⟩
       have P8 := Lib.hid h8
       have P9 := Lib.hid h9
       clear h8 h9
       go_wp2_with fail
       (go_at_call 29; refine (chancelref06_After.calls k5 (fun _ => True) A c xs id (fun _ => True) A2 c2 ys rs bb _ (V_of (Kd.C_below HR.out P8.out.b) hc) (V_of (Kd.C_below HRY.out P8.out.b) hcy) K5.out).mono ?_; rintro e w51 ⟨v51, rfl, hv51, hb51⟩)
       obtain ⟨A51, c51, e51, hc51, hf51⟩ := hv51
       subst e51
       have C51 := Lib.hid (Kd.F_now hf51)
       have P10 := Lib.hid (P8.out.next hb51)
       have P11 := Lib.hid (P9.out.next hb51)
       have y0 := (blk_cell P10.out.h7 0).trans rfl
       have y1 := (blk_cell P10.out.h7 1).trans rfl
       have x0 := (blk_cell P11.out.h7 0).trans rfl
       have x1 := (blk_cell P11.out.h7 1).trans rfl
       clear hf51 hb51 P8 P9
       go_wp2_with fail
       (go_at_call 16; refine (shPlain_calls true A50 c50 rss rs _ P11.out.s (by rw [← LR.out]; have := RL.out; omega) RZ.out).mono ?_; rintro e w52 ⟨v52, rfl, hr52, hb52⟩)
       obtain ⟨A52, c52, e52, hc52, hC52⟩ := Kd.R_reads hr52
       subst e52
       have C52 := Lib.hid hC52
       have C51b := Lib.hid (Kd.C_below C51.out hb52)
       have P12 := Lib.hid (P10.out.next hb52)
       have P13 := Lib.hid (P11.out.next hb52)
       replace y0 := pw_cell_below hb52 y0
       replace y1 := pw_cell_below hb52 y1
       replace x0 := pw_cell_below hb52 x0
       replace x1 := pw_cell_below hb52 x1
       clear hr52 hC52 hb52 P10 P11 C51
       go_wp2_with fail
       (go_at_call 15; refine (chancelref06_Same.calls k6 A52 c52 rs A51 c51 rs true _ C52.out hc52 C51b.out hc51 K6.out).mono ?_; rintro e w53 ⟨rfl, hb53⟩)
       have P14 := Lib.hid (P12.out.next hb53)
       have P15 := Lib.hid (P13.out.next hb53)
       replace y0 := pw_cell_below hb53 y0
       replace y1 := pw_cell_below hb53 y1
       replace x0 := pw_cell_below hb53 x0
       replace x1 := pw_cell_below hb53 x1
       clear hb53 P12 P13 C52 C51b
       go_wp2_with fail
       (go_at_call 9; refine (frozen_calls true A50 rss.length c50 _).mono ?_; rintro e w54 ⟨rfl, hb54⟩)
       have P16 := Lib.hid (P14.out.next hb54)
       replace y0 := pw_cell_below hb54 y0
       replace y1 := pw_cell_below hb54 y1
       clear hb54 P14 P15 x0 x1
       go_wp2_with fail
       (go_at_call 16; refine (shPlain_calls true A6 c6 xss xs _ P16.out.s (by rw [← LN.out]; exact hn2) HZ.out).mono ?_; rintro e w55 ⟨v55, rfl, hr55, hb55⟩)
       obtain ⟨A55, c55, e55, hc55, hC55⟩ := Kd.R_reads hr55
       subst e55
       have C55 := Lib.hid hC55
       have P17 := Lib.hid (P16.out.next hb55)
       clear hr55 hC55 hb55 P16 y0 y1
       go_wp2_with fail
       (go_at_call 15; refine (chancelref06_Same.calls k7 A55 c55 xs A c xs true _ C55.out hc55 (Kd.C_below HR.out P17.out.b) hc K7.out).mono ?_; rintro e w56 ⟨rfl, hb56⟩)
       have P18 := Lib.hid (P17.out.next hb56)
       clear hb56 P17
       go_wp2
       go_ret
       exact ⟨by simp, P18.out.b⟩
end Go.Proofs.YtkkjebjlgcggcaaDoor.Seg
