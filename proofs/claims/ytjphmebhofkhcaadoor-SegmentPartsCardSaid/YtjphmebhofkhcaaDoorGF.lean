/- Segments: the walk of marks.Right at right marks. Conditions: at most 2^40 spans and sites. -/
import Derived.Test.YtjphmebhofkhcaaDoorGE
import Derived.Test.YtjphmebhofkhcaaDoorGD
import Derived.WalkSpells
import Derived.Lib.Hide
import Derived.Test.YtjphmebhofkhcaaDoorOwn
import Derived.Deep.RegionHeld3
import Derived.Shelf.Abstract
import Derived.Deep.DeepCutAuto
import Derived.BigQuiet
import Derived.Test.YtjphmebhofkhcaaDoorGHeld
namespace Go.Proofs.YtjphmebhofkhcaaDoor.Seg
open Go.RowKit Go.Proofs.YtjphmebhofkhcaaDoorPl Go.Proofs.YtjphmebhofkhcaaDoorW.PrintWords Go.Proofs.YtjphmebhofkhcaaDoorW.PrintLast Go.Proofs.YtjphmebhofkhcaaDoorW.PrintMore Go.Proofs.YtjphmebhofkhcaaDoor.Rope Go.Proofs.YtjphmebhofkhcaaDoor.PSegAll Go.Proofs.YtjphmebhofkhcaaDoor.Pure
set_option linter.unusedVariables false
set_option linter.unusedSimpArgs false
theorem ok_next {n : Int} : ∀ {xs : List S67} {q : Option S67} (i : Nat) {p x : S67}, spansOk n q xs = true → xs[i]? = some p → xs[i + 1]? = some x → spanOk n (some p) x = true
  | [], _, _, _, _, _, h1, _ => by simp at h1
  | s :: r, q, 0, p, x, h, h1, h2 => by
    rw [spansOk, Bool.and_eq_true] at h
    simp only [List.getElem?_cons_zero, Option.some.injEq] at h1
    subst h1
    rw [List.getElem?_cons_succ] at h2
    cases r with
    | nil => simp at h2
    | cons t u =>
      simp only [List.getElem?_cons_zero, Option.some.injEq] at h2
      subst h2
      have h3 := h.2
      rw [spansOk, Bool.and_eq_true] at h3
      exact h3.1
  | s :: r, q, i + 1, p, x, h, h1, h2 => by
    rw [spansOk, Bool.and_eq_true] at h
    rw [List.getElem?_cons_succ] at h1 h2
    exact ok_next i h.2 h1 h2
theorem site_next {ys : List S70} (h : ys.Pairwise siteLt) {i : Nat} {p x : S70} (h1 : ys[i]? = some p) (h2 : ys[i + 1]? = some x) : p.f1 < x.f1 ∨ p.f1 = x.f1 ∧ p.f0 < x.f0 := by
  obtain ⟨g1, e1⟩ := List.getElem?_eq_some_iff.1 h1
  obtain ⟨g2, e2⟩ := List.getElem?_eq_some_iff.1 h2
  have := List.pairwise_iff_getElem.1 h i (i + 1) g1 g2 (by omega)
  rw [e1, e2] at this
  exact this
theorem comp_calls (p x : S70) (w : World) (hlt : p.f1 < x.f1 ∨ p.f1 = x.f1 ∧ p.f0 < x.f0) : Calls Tryd.prog 64 #[.agg #[.int .i64 p.f0, .int .i64 p.f1], .agg #[.int .i64 x.f0, .int .i64 x.f1]] w fun e w' => (∃ z : Int, e = .returned (.int .i64 z) ∧ z < 0) ∧ Below w.heap.size w w' := by
  obtain ⟨k, hk⟩ := Go.Proofs.YtjphmebhofkhcaaDoorW.PrintWords.Ev.rounds (mr_compare p.f0 p.f1 x.f0 x.f1)
  refine (marks_compare.calls k p.f0 p.f1 x.f0 x.f1 _ w hk).mono ?_
  rintro e w' ⟨rfl, h⟩
  exact ⟨⟨_, rfl, Int.not_le.1 (fun g => (mr_compare_sign p.f0 p.f1 x.f0 x.f1).1 g hlt)⟩, h⟩
abbrev RZ (V : World) (gB : Nat) (gM : Nat) (sv : Value) (x : S70) (W : World) : Prop := W.cell? ⟨gB, 0, none⟩ = some (.int .i64 x.f0) ∧ W.cell? ⟨gB, 1, none⟩ = some (.int .i64 x.f1) ∧ W.cell? ⟨gM, 1, none⟩ = some sv ∧ Below V.heap.size V W
theorem RZ.next {V W W' : World} {gB gM : Nat} {sv : Value} {x : S70} (h : RZ V gB gM sv x W) (hb : Below W.heap.size W W') : RZ V gB gM sv x W' := ⟨pw_cell_below hb h.1, pw_cell_below hb h.2.1, pw_cell_below hb h.2.2.1, below_step h.2.2.2 hb⟩
abbrev RY (V : World) (gB : Nat) (gM : Nat) (sv : Value) (x : S70) (q : Addr) (y : S70) (W : World) : Prop := W.cell? ⟨gB, 0, none⟩ = some (.int .i64 x.f0) ∧ W.cell? ⟨gB, 1, none⟩ = some (.int .i64 x.f1) ∧ W.cell? ⟨gM, 1, none⟩ = some sv ∧ W.cell? q = some (.int .i64 y.f0) ∧ W.cell? ⟨q.block, q.off + 1, none⟩ = some (.int .i64 y.f1) ∧ Below V.heap.size V W
theorem RY.next {V W W' : World} {gB gM : Nat} {sv : Value} {x : S70} {q : Addr} {y : S70} (h : RY V gB gM sv x q y W) (hb : Below W.heap.size W W') : RY V gB gM sv x q y W' := ⟨pw_cell_below hb h.1, pw_cell_below hb h.2.1, pw_cell_below hb h.2.2.1, pw_cell_below hb h.2.2.2.1, pw_cell_below hb h.2.2.2.2.1, below_step h.2.2.2.2.2 hb⟩
set_option maxRecDepth 1000000 in
set_option maxHeartbeats 8000000 in
theorem right_true (A : Option Addr) (c : Nat) (xs : List S67) (B : Option Addr) (d : Nat) (ys : List S70) (n : Int) (w : World) (hr : Kd.C kS w A xs.length xs) (hs : Kd.C kY w B ys.length ys) (hl : xs.length ≤ 1099511627776) (hly : ys.length ≤ 1099511627776) (hok : rightB n xs ys = true) :
    Calls Tryd.prog 35 #[.agg #[.slice A xs.length c, .slice B ys.length d], .int .i64 n] w fun e w' => e = .returned (.bool true) ∧ Below w.heap.size w w' := by
  have HR := Lib.hid hr
  have HS := Lib.hid hs
  have HX := Lib.hid (Mk.right_iff.1 hok).1
  have HY := Lib.hid ((sitesOk_iff n none ys).1 (Mk.right_iff.1 hok).2)
  clear hr hs hok
  go_enter Tryd.func35, Tryd.ntmps35
  go_upto_region 1 with fail
  refine gen2 (φ := fun W => Code.wp _ _ _ _ W) (P := fun W => Below w.heap.size w W ∧ W.heap[w.heap.size]? = some (.cells #[.slice A xs.length c, .slice B ys.length d] 29 (0, 0))) ⟨below_alloc (Below.refl _ _) _, blk_new w _⟩ ?_
  rintro V ⟨hb, h2⟩
  have BV := Lib.hid hb
  have XM := Lib.hid h2
  have m0 := (blk_cell h2 0).trans rfl
  clear hb h2
  go_wp2
  clear m0
  go_loopw [13] (fun s13 wr => ∃ kk : Nat, kk ≤ xs.length ∧ s13 = .int .i64 (kk : Int) ∧ Hid (Below V.heap.size V wr)) (fun s13 _ => xs.length - Mk.cntM s13)
  case atStart => exact ⟨0, Nat.zero_le _, rfl, Lib.hid (Below.refl _ _)⟩
  case round =>
    obtain ⟨kk, hkk, rfl, ZW⟩ := hrel
    by_cases hlt : kk < xs.length
    · have d1 : decide ((kk : Int) < (xs.length : Int)) = true := by simp; omega
      have b1 : (0 : Int) ≤ (kk : Int) := by omega
      have b2 : (kk : Int) < (xs.length : Int) := by omega
      have w1_ : IntKind.i64.wrap ((kk : Int) + 1) = (kk : Int) + 1 := IntWalk.i64_in _ (by omega)
      obtain ⟨x, hx⟩ : ∃ x, xs[kk]? = some x := ⟨_, List.getElem?_eq_getElem hlt⟩
      have HXX := Lib.hid hx
      obtain ⟨ad, e0, y0, y1, y2⟩ := Mk.at_S (Kd.C_below HR.out (below_step BV.out ZW.out)) hx hlt
      subst e0
      obtain ⟨g1, g2, g3, g4⟩ := ok_each HX.out x (List.mem_of_getElem? hx)
      have c1 : decide (x.f0 ≤ 0) = false := by simp; omega
      have c2 : decide (x.f1 < 0) = false := by simp; omega
      have c3 : decide (x.f2 ≤ x.f1) = false := by simp; omega
      have c4 : decide (n < x.f2) = false := by simp; omega
      have k1 : ¬ x.f0 ≤ 0 := by omega
      have k2 : ¬ x.f1 < 0 := by omega
      have k3 : ¬ x.f2 ≤ x.f1 := by omega
      have k4 : ¬ n < x.f2 := by omega
      clear hx g1 g2 g3 g4
      go_upto_region 4 with (first | ((with_reducible refine gate_dst (N := 6) rfl ?_); refine box_event ?hg (N := 6) ?hd (cs := #[.int .i64 0, .int .i64 0, .int .i64 0]) (t := 67) ?hr ?_; (case hd => rfl); (case hg => rfl); (case hr => first | (go_simp; done) | (go_simp; rfl)); intro gB hgB wB hxB hbB; have GB := Lib.hid (show Mk.TBm 67 wr gB #[.int .i64 0, .int .i64 0, .int .i64 0] wB from ⟨hbB, by rw [hgB]; exact Nat.le_refl _, hxB⟩); have q0 := (blk_cell hxB 0).trans rfl; have q1 := (blk_cell hxB 1).trans rfl; have q2 := (blk_cell hxB 2).trans rfl; have z0 := blk_frozen hxB 0; have z1 := blk_frozen hxB 1; have z2 := blk_frozen hxB 2; clear hgB hxB hbB))
      refine gen2 (φ := fun W => Code.wp _ _ _ _ W) (P := fun W => Mk.TBm 67 wr gB #[.int .i64 x.f0, .int .i64 x.f1, .int .i64 x.f2] W) (((GB.out.set 0 (.int .i64 x.f0)).set 1 (.int .i64 x.f1)).set 2 (.int .i64 x.f2)) ?_
      clear q0 q1 q2 z0 z1 z2 GB y0 y1 y2
      rintro V3 hV3
      have B3 := Lib.hid (below_step ZW.out hV3.b)
      have T3 := Lib.hid hV3.hx
      have t0 := (blk_cell hV3.hx 0).trans rfl
      have t1 := (blk_cell hV3.hx 1).trans rfl
      have t2 := (blk_cell hV3.hx 2).trans rfl
      clear hV3 ZW
      by_cases hk : kk = 0
      · have dk : decide ((0 : Int) < (kk : Int)) = false := by simp [hk]
        have nk : ¬ (0 : Int) < (kk : Int) := by omega
        go_wp2
        go_roundw
        case rel => exact ⟨kk + 1, by omega, by go_num, B3⟩
        case measure =>
          simp only [Mk.cntM]
          omega
      · obtain ⟨jj, rfl⟩ : ∃ jj, kk = jj + 1 := ⟨kk - 1, by omega⟩
        have dk : decide ((0 : Int) < ((jj + 1 : Nat) : Int)) = true := by simp
        have wp_ : IntKind.i64.wrap (((jj + 1 : Nat) : Int) - 1) = (jj : Int) := by rw [show ((jj + 1 : Nat) : Int) - 1 = (jj : Int) by omega]; exact IntWalk.i64_in _ (by omega)
        have p1 : (0 : Int) ≤ (jj : Int) := by omega
        have p2 : (jj : Int) < (xs.length : Int) := by omega
        have m0 := (blk_cell (blk_below XM.out B3.out) 0).trans rfl
        obtain ⟨p, hp⟩ : ∃ p, xs[jj]? = some p := ⟨_, List.getElem?_eq_getElem (by omega)⟩
        obtain ⟨ad2, e2, y0, y1, y2⟩ := Mk.at_S (Kd.C_below HR.out (below_step BV.out B3.out)) hp (by omega)
        injection e2 with e2
        subst e2
        have hn := (spanOk_iff n (some p) x).1 (ok_next jj HX.out hp HXX.out)
        have h5 := hn.2.2.2.2 p rfl
        have c5 : decide (x.f1 < p.f2) = false := by simp; omega
        have k5 : ¬ x.f1 < p.f2 := by omega
        clear hp hn dk
        go_upto_region 8 with (first | ((with_reducible refine gate_dst (N := 7) rfl ?_); refine box_event ?hg (N := 7) ?hd (cs := #[.int .i64 0, .int .i64 0, .int .i64 0]) (t := 67) ?hr ?_; (case hd => rfl); (case hg => rfl); (case hr => first | (go_simp; done) | (go_simp; rfl)); intro gP hgP wP hxP hbP; have GP := Lib.hid (show Mk.TBm 67 V3 gP #[.int .i64 0, .int .i64 0, .int .i64 0] wP from ⟨hbP, by rw [hgP]; exact Nat.le_refl _, hxP⟩); have q0 := (blk_cell hxP 0).trans rfl; have q1 := (blk_cell hxP 1).trans rfl; have q2 := (blk_cell hxP 2).trans rfl; have z0 := blk_frozen hxP 0; have z1 := blk_frozen hxP 1; have z2 := blk_frozen hxP 2; clear hgP hxP hbP))
        refine gen2 (φ := fun W => Code.wp _ _ _ _ W) (P := fun W => Mk.TBm 67 V3 gP #[.int .i64 p.f0, .int .i64 p.f1, .int .i64 p.f2] W) (((GP.out.set 0 (.int .i64 p.f0)).set 1 (.int .i64 p.f1)).set 2 (.int .i64 p.f2)) ?_
        clear q0 q1 q2 z0 z1 z2 GP y0 y1 y2 m0 t0 t1 t2
        rintro V4 hV4
        have B4 := Lib.hid (below_step B3.out hV4.b)
        have t0 := (blk_cell (blk_below T3.out hV4.b) 0).trans rfl
        have t1 := (blk_cell (blk_below T3.out hV4.b) 1).trans rfl
        have u0 := (blk_cell hV4.hx 0).trans rfl
        have u2 := (blk_cell hV4.hx 2).trans rfl
        clear hV4
        have c5 : decide (x.f1 < p.f2) = false := by simp; omega
        have k5 : ¬ x.f1 < p.f2 := by omega
        by_cases h6 : p.f2 = x.f1
        · have h7 : p.f0 ≠ x.f0 := by
            rcases h5 with h5 | h5
            · omega
            · exact h5.2
          clear h5
          generalize hv1 : x.f1 = v1 at *
          generalize hv2 : x.f0 = v2 at *
          generalize hv3 : p.f2 = v3 at *
          generalize hv4 : p.f0 = v4 at *
          subst h6
          have c6 : (v4 == v2) = false := by simpa using h7
          have c7 : decide (v4 = v2) = false := by simpa using h7
          have c8 : ¬ v4 = v2 := h7
          clear h7 hv1 hv2 hv3 hv4
          go_wp2
          go_roundw
          case rel => exact ⟨jj + 1 + 1, by omega, by go_num, B4⟩
          case measure =>
            simp only [Mk.cntM]
            omega
        · clear h5
          generalize hv1 : x.f1 = v1 at *
          generalize hv2 : x.f0 = v2 at *
          generalize hv3 : p.f2 = v3 at *
          generalize hv4 : p.f0 = v4 at *
          have c6 : (v3 == v1) = false := by simpa using h6
          have c7 : decide (v3 = v1) = false := by simpa using h6
          have c8 : ¬ v3 = v1 := h6
          clear h6 hv1 hv2 hv3 hv4
          go_wp2
          go_roundw
          case rel => exact ⟨jj + 1 + 1, by omega, by go_num, B4⟩
          case measure =>
            simp only [Mk.cntM]
            omega
    · have d1 : decide ((kk : Int) < (xs.length : Int)) = false := by simp; omega
      have m1 := (blk_cell (blk_below XM.out ZW.out) 1).trans rfl
      go_wp2
      clear m1
      go_loopw [70] (fun s70 w2 => ∃ kk : Nat, kk ≤ ys.length ∧ s70 = .int .i64 (kk : Int) ∧ Hid (Below V.heap.size V w2)) (fun s70 _ => ys.length - Mk.cntM s70)
      case atStart => exact ⟨0, Nat.zero_le _, rfl, ZW⟩
      case round =>
        clear ZW d1
        obtain ⟨jj, hjj, rfl, YW⟩ := hrel
        by_cases hlt2 : jj < ys.length
        · have d1 : decide ((jj : Int) < (ys.length : Int)) = true := by simp; omega
          have b1 : (0 : Int) ≤ (jj : Int) := by omega
          have b2 : (jj : Int) < (ys.length : Int) := by omega
          have w1_ : IntKind.i64.wrap ((jj : Int) + 1) = (jj : Int) + 1 := IntWalk.i64_in _ (by omega)
          obtain ⟨x, hx⟩ : ∃ x, ys[jj]? = some x := ⟨_, List.getElem?_eq_getElem hlt2⟩
          have HXX := Lib.hid hx
          obtain ⟨ad, e0, y0, y1⟩ := Mk.at_Y (Kd.C_below HS.out (below_step BV.out YW.out)) hx hlt2
          subst e0
          obtain ⟨g1, g2, g3⟩ := HY.out.1 x (List.mem_of_getElem? hx)
          clear hx
          go_upto_region 14 with (first | ((with_reducible refine gate_dst (N := 9) rfl ?_); refine box_event ?hg (N := 9) ?hd (cs := #[.int .i64 0, .int .i64 0]) (t := 70) ?hr ?_; (case hd => rfl); (case hg => rfl); (case hr => first | (go_simp; done) | (go_simp; rfl)); intro gB hgB wB hxB hbB; have GB := Lib.hid (show Mk.TBm 70 wr gB #[.int .i64 0, .int .i64 0] wB from ⟨hbB, by rw [hgB]; exact Nat.le_refl _, hxB⟩); have q0 := (blk_cell hxB 0).trans rfl; have q1 := (blk_cell hxB 1).trans rfl; have z0 := blk_frozen hxB 0; have z1 := blk_frozen hxB 1; clear hgB hxB hbB))
          refine gen2 (φ := fun W => Code.wp _ _ _ _ W) (P := fun W => Mk.TBm 70 wr gB #[.int .i64 x.f0, .int .i64 x.f1] W) ((GB.out.set 0 (.int .i64 x.f0)).set 1 (.int .i64 x.f1)) ?_
          clear q0 q1 z0 z1 GB y0 y1
          rintro V3 hV3
          have B3 := Lib.hid (below_step YW.out hV3.b)
          have T3 := Lib.hid hV3.hx
          clear hV3 YW
          have k1 : decide (x.f0 ≤ 0) = false := by simp; omega
          have k2 : decide (x.f1 < 0) = false := by simp; omega
          have k3 : decide (n < x.f1) = false := by simp; omega
          have f1 : ¬ x.f0 ≤ 0 := by omega
          have f2 : ¬ x.f1 < 0 := by omega
          have f3 : ¬ n < x.f1 := by omega
          clear g1 g2 g3
          by_cases hk : jj = 0
          · have dk : decide ((0 : Int) < (jj : Int)) = false := by simp [hk]
            have nk : ¬ (0 : Int) < (jj : Int) := by omega
            have QS := Lib.hid (show RZ V3 gB w.heap.size (.slice (some ad) ys.length d) x V3 from ⟨(blk_cell T3.out 0).trans rfl, (blk_cell T3.out 1).trans rfl, (blk_cell (blk_below XM.out B3.out) 1).trans rfl, Below.refl _ _⟩)
            have z0 := QS.out.1
            have z1 := QS.out.2.1
            have z2 := QS.out.2.2.1
            clear QS
            go_quiet (fail)
            have B4 := Lib.hid (below_step B3.out (show Below V3.heap.size V3 (V3.drewN nq) from pw_below_drewN (Below.refl _ _) _))
            go_wp2
            go_roundw
            case rel => exact ⟨jj + 1, by omega, by go_num, B4⟩
            case measure =>
              simp only [Mk.cntM]
              omega
          · obtain ⟨ii, rfl⟩ : ∃ ii, jj = ii + 1 := ⟨jj - 1, by omega⟩
            have dk : decide ((0 : Int) < ((ii + 1 : Nat) : Int)) = true := by simp
            have wp_ : IntKind.i64.wrap (((ii + 1 : Nat) : Int) - 1) = (ii : Int) := by rw [show ((ii + 1 : Nat) : Int) - 1 = (ii : Int) by omega]; exact IntWalk.i64_in _ (by omega)
            have wq_ : IntKind.i64.wrap (ii : Int) = (ii : Int) := IntWalk.i64_in _ (by omega)
            have p1 : (0 : Int) ≤ (ii : Int) := by omega
            have p2 : (ii : Int) < (ys.length : Int) := by omega
            obtain ⟨p, hp⟩ : ∃ p, ys[ii]? = some p := ⟨_, List.getElem?_eq_getElem (by omega)⟩
            obtain ⟨ad2, e2, y0, y1⟩ := Mk.at_Y (Kd.C_below HS.out (below_step BV.out B3.out)) hp (by omega)
            injection e2 with e2
            subst e2
            have LT := Lib.hid (site_next HY.out.2.1 hp HXX.out)
            clear hp
            have QS := Lib.hid (show RY V3 gB w.heap.size (.slice (some ad) ys.length d) x (ad.add (ii * 2)) p V3 from ⟨(blk_cell T3.out 0).trans rfl, (blk_cell T3.out 1).trans rfl, (blk_cell (blk_below XM.out B3.out) 1).trans rfl, y0, y1, Below.refl _ _⟩)
            clear y0 y1
            go_region_held3 (fun w' => RY V3 gB w.heap.size (.slice (some ad) ys.length d) x (ad.add (ii * 2)) p w')
              (first | (with_reducible assumption) | (with_reducible exact HS1.out) | exact QS.out.next (by with_reducible repeat (first | exact Below.refl _ _ | apply pw_below_drewN | apply Below.drew)))
              (first | (go_at_call 64; (refine (comp_calls p x _ LT.out).mono ?_); rintro e w9 ⟨⟨zz, rfl, hz⟩, hg9⟩; have HS1 := Lib.hid (RY.next (V := V3) (gB := gB) (gM := w.heap.size) (sv := .slice (some ad) ys.length d) (q := ad.add (ii * 2)) (y := p) (x := x) (by assumption) hg9); have zf : decide (0 ≤ zz) = false := (by simp; omega); have zn : ¬ 0 ≤ zz := (by omega); clear hg9 hz))
            have B4 := Lib.hid (below_step B3.out HS1.out.2.2.2.2.2)
            clear HS1 QS
            go_wp2
            go_roundw
            case rel => exact ⟨ii + 1 + 1, by omega, by go_num, B4⟩
            case measure =>
              simp only [Mk.cntM]
              omega
        · have d1 : decide ((jj : Int) < (ys.length : Int)) = false := by simp; omega
          go_wp2
          refine bodyPost_ret (results_tmp rfl _ _ _) rfl ?_
          exact ⟨rfl, below_step BV.out YW.out⟩
end Go.Proofs.YtjphmebhofkhcaaDoor.Seg
/- Segments: segment.Load at values that may be loaded, over right_true. -/
namespace Go.Proofs.YtjphmebhofkhcaaDoor.Seg
open Go.RowKit Go.Proofs.YtjphmebhofkhcaaDoorPl Go.Proofs.YtjphmebhofkhcaaDoorW.PrintWords Go.Proofs.YtjphmebhofkhcaaDoorW.PrintLast Go.Proofs.YtjphmebhofkhcaaDoorW.PrintMore Go.Proofs.YtjphmebhofkhcaaDoor.Rope Go.Proofs.YtjphmebhofkhcaaDoor.PSegAll Go.Proofs.YtjphmebhofkhcaaDoor.Pure
set_option linter.unusedVariables false
set_option linter.unusedSimpArgs false
set_option maxRecDepth 1000000 in
set_option maxHeartbeats 4000000 in
theorem load_right (x : G) (A : Option Addr) (c : Nat) (B : Option Addr) (d : Nat) (w : World) (hT : Tabs w) (hr : GR w x A c B d) (h : Sz x) (hv : Lib.validD x.f2.data.toList = true) (hm : rightB (cnt x.f2) x.f3 x.f4 = true) :
    Calls Tryd.prog 11 #[.agg (gC x A c B d)] w (RetSeg x w) := by
  have KM := Lib.hid hm
  have HT := Lib.hid hT
  have HR := Lib.hid hr
  have HZ := Lib.hid h
  have HV := Lib.hid hv
  clear hT hr h hv
  clear hm
  go_enter Tryd.func11, Tryd.ntmps11
  go_upto_region 1 with (first | ((with_reducible refine gate_dst (N := 1) rfl ?_); refine box_event ?hg (N := 1) ?hd (cs := gC x A c B d) (t := 25) ?hr ?_; (case hd => rfl); (case hg => rfl); (case hr => first | (go_simp; done) | (go_simp; rfl)); intro gX hgX wX hxX hbX; have BX := Lib.hid hbX; have XX := Lib.hid hxX; clear hgX hxX hbX) | ((with_reducible refine gate_dst (N := 2) rfl ?_); refine box_event ?hg (N := 2) ?hd (cs := zC) (t := 31) ?hr ?_; (case hd => rfl); (case hg => rfl); (case hr => first | (go_simp; done) | (go_simp; rfl)); intro gR hgR wR hxR hbR; have BR := Lib.hid (below_step BX.out hbR); have GR_ := Lib.hid (show w.heap.size ≤ gR by rw [hgR]; exact BX.out.size); have XR := Lib.hid hxR; have X1 := Lib.hid (blk_below XX.out hbR); clear hgR hxR hbR))
  have a2 := blk_cell X1.out 2
  go_upto_region 2 with (first | (go_at_call 32; refine (new_rpS x.f2 _ HZ.out.s2 (HT.out.below BR.out) HV.out).mono ?_; rintro e w1 ⟨p, rfl, hi, hb⟩; have P1 := Lib.hid (show Le w gX gR x A c B d p x.f2 w1 from ⟨below_step BR.out hb, blk_below X1.out hb, blk_below XR.out hb, hi⟩); clear hi hb))
  clear a2
  have QS := Lib.hid (Q2.of P1.out.hX (Below.refl _ _))
  go_region_held3 (fun w' => Q2 w1 gX x A c B d w')
    (first | (with_reducible assumption) | (with_reducible exact HS5.out) | (with_reducible exact HS6.out) | (with_reducible exact Q2.of P1.out.hX (below_set (Q2.b HS6.out) (Nat.le_refl _))) | (with_reducible exact Q2.of P1.out.hX (below_set (below_set (Q2.b HS6.out) (Nat.le_refl _)) (Nat.le_refl _))) | (with_reducible exact Q2.of P1.out.hX (below_set (Q2.b HS6.out) (Q2.b HS5.out).size)) | (with_reducible exact Q2.of P1.out.hX (below_set (below_set (Q2.b HS6.out) (Q2.b HS5.out).size) (Q2.b HS5.out).size)) | (with_reducible exact Q2.next HS5.out (below_alloc (Below.refl _ _) _)) | (with_reducible exact Q2.next HS6.out (below_alloc (Below.refl _ _) _)) | exact QS.out.next (by (with_reducible repeat (first | exact Below.refl _ _ | apply pw_below_drewN | apply Below.drew | apply below_alloc))))
    (first
    | (go_at_call 33; (refine (clone67 A c x.f3 _ ?ca HR.out.c3 ?cl).mono ?_); (case ca => exact Kd.C_below HR.out.r3 (below_step P1.out.b (Q2.b (V := w1) (gX := gX) (x := x) (A := A) (c := c) (B := B) (d := d) (by assumption)))); (case cl => have := HZ.out.s3; omega); rintro e w5 ⟨v5, rfl, hr5, hb5⟩; obtain ⟨A5, c5, e5⟩ := Kd.R_slice hr5; subst e5; have HS5 := Lib.hid (Q2.next (V := w1) (gX := gX) (x := x) (A := A) (c := c) (B := B) (d := d) (by assumption) hb5); have R5 := Lib.hid hr5; (first | (refine genM (g := w1.heap.size) ?hq1 hb5 (fun M5 => ?_); (case hq1 => first | exact blk_newS rfl | exact blk_drew (blk_newS rfl))) | skip); clear hr5 hb5)
    | (go_at_call 34; (refine (clone70 B d x.f4 _ ?cb HR.out.c4 ?cm).mono ?_); (case cb => exact Kd.C_below HR.out.r4 (below_step P1.out.b (Q2.b (V := w1) (gX := gX) (x := x) (A := A) (c := c) (B := B) (d := d) (by assumption)))); (case cm => have := HZ.out.s4; omega); rintro e w6 ⟨v6, rfl, hr6, hb6⟩; obtain ⟨A6, c6, e6⟩ := Kd.R_slice hr6; subst e6; have HS6 := Lib.hid (Q2.next (V := w1) (gX := gX) (x := x) (A := A) (c := c) (B := B) (d := d) (by assumption) hb6); have R6 := Lib.hid hr6; have R5b := Lib.hid (Kd.R_below R5.out (below_step (by (with_reducible repeat (first | exact Below.refl _ _ | apply pw_below_drewN | apply Below.drew | apply below_alloc))) hb6)); (first | (refine genM (g := w1.heap.size) M5.out hb6 (fun M6 => ?_); have q0 := (blk_cell M6.out 0).trans rfl; have q1 := (blk_cell M6.out 1).trans rfl; have q2 := blk_frozen M6.out 0; have q3 := blk_frozen M6.out 1) | (refine genM (g := w5.heap.size) ?hq2 hb6 (fun M6 => ?_); (case hq2 => first | exact blk_newS rfl | exact blk_drew (blk_newS rfl)); have q0 := (blk_cell M6.out 0).trans rfl; have q1 := (blk_cell M6.out 1).trans rfl; have q2 := blk_frozen M6.out 0; have q3 := blk_frozen M6.out 1) | skip); clear hr6 hb6))
  all_goals
    go_upto_region 3 with (fail)
    first
      | (refine gen2 (φ := fun W => Code.wp _ _ _ _ W) (P := fun W => Lm w gX gR x A c B d p x.f2 w1.heap.size A5 c5 A6 c6 W) ⟨P1.out.next (below_set (below_set (Q2.b HS6.out) (Nat.le_refl _)) (Nat.le_refl _)), by simpa using blk_set (blk_set M6.out 0 (.slice A5 x.f3.length c5)) 1 (.slice A6 x.f4.length c6), tr_set2 (TR.of R5b.out R6.out) M6.out _ _⟩ ?_; clear q0 q1 q2 q3 M6; generalize w1.heap.size = gM)
      | (refine gen2 (φ := fun W => Code.wp _ _ _ _ W) (P := fun W => Lm w gX gR x A c B d p x.f2 w5.heap.size A5 c5 A6 c6 W) ⟨P1.out.next (below_set (below_set (Q2.b HS6.out) (Q2.b HS5.out).size) (Q2.b HS5.out).size), by simpa using blk_set (blk_set M6.out 0 (.slice A5 x.f3.length c5)) 1 (.slice A6 x.f4.length c6), tr_set2 (TR.of R5b.out R6.out) M6.out _ _⟩ ?_; clear q0 q1 q2 q3 M6; generalize w5.heap.size = gM)
      | (refine gen2 (φ := fun W => Code.wp _ _ _ _ W) (P := fun W => Lm w gX gR x A c B d p x.f2 w6.heap.size A5 c5 A6 c6 W) ⟨P1.out.next (below_alloc (Q2.b HS6.out) _), blk_newS rfl, (TR.of R5b.out R6.out).below (below_alloc (Below.refl _ _) _)⟩ ?_; generalize w6.heap.size = gM)
    rintro V hV
    have PV := Lib.hid hV
    have m0 := (blk_cell hV.hM 0).trans rfl
    have m1 := (blk_cell hV.hM 1).trans rfl
    clear hV P1 QS HS5 HS6 R5 R6 R5b
  all_goals
    have QN := Lib.hid (QM.of PV.out.hM (Below.refl _ _))
    clear m0 m1
    go_region_held3 (fun w' => QM V gM x A5 c5 A6 c6 w')
      (first | (with_reducible assumption) | (with_reducible exact HS7.out) | (with_reducible exact HS8.out) | exact QN.out.next (by (with_reducible repeat (first | exact Below.refl _ _ | apply pw_below_drewN | apply Below.drew | apply below_alloc))))
      (first
      | (go_at_call 36; (refine (len_rpb (p := p) (s := x.f2) ?ca HZ.out.s2).mono ?_); (case ca => exact PV.out.rp.below (QM.b (V := V) (gX := gM) (x := x) (A := A5) (c := c5) (B := A6) (d := c6) (by assumption))); rintro e w7 ⟨rfl, hb7⟩; have HS7 := Lib.hid (QM.next (V := V) (gX := gM) (x := x) (A := A5) (c := c5) (B := A6) (d := c6) (by assumption) hb7); clear hb7)
      | (go_at_call 35; (refine (right_true A5 c5 x.f3 A6 c6 x.f4 (cnt x.f2) _ ?r3 ?r4 HZ.out.s3 HZ.out.s4 KM.out).mono ?_); (case r3 => exact Kd.C_below PV.out.tr.r3 (QM.b (V := V) (gX := gM) (x := x) (A := A5) (c := c5) (B := A6) (d := c6) (by assumption))); (case r4 => exact Kd.C_below PV.out.tr.r4 (QM.b (V := V) (gX := gM) (x := x) (A := A5) (c := c5) (B := A6) (d := c6) (by assumption))); rintro e w8 ⟨rfl, hb8⟩; have HS8 := Lib.hid (QM.next (V := V) (gX := gM) (x := x) (A := A5) (c := c5) (B := A6) (d := c6) (by assumption) hb8); clear hb8))
    all_goals
      have P8 := Lib.hid (PV.out.next (QM.b HS8.out))
      clear QN HS7 HS8
      have r0 := (blk_cell P8.out.hR 0).trans rfl
      have f0 := blk_frozen P8.out.hR 0
      have r1 := (blk_cell P8.out.hR 1).trans rfl
      have f1 := blk_frozen P8.out.hR 1
      have r2 := (blk_cell P8.out.hR 2).trans rfl
      have f2 := blk_frozen P8.out.hR 2
      have r3 := (blk_cell P8.out.hR 3).trans rfl
      have f3 := blk_frozen P8.out.hR 3
      have r4 := (blk_cell P8.out.hR 4).trans rfl
      have f4 := blk_frozen P8.out.hR 4
      have x0_ := (blk_cell P8.out.hX 0).trans rfl
      have x1_ := (blk_cell P8.out.hX 1).trans rfl
      have m0 := (blk_cell P8.out.hM 0).trans rfl
      have m1 := (blk_cell P8.out.hM 1).trans rfl
      go_wp2
      have S5 := sp_set (sp_set (sp_set (sp_set (sp_set (show SP w8 x p A5 c5 A6 c6 ∧ w8.heap[gR]? = some (.cells zC 31 (0, 0)) from ⟨⟨P8.out.tr, P8.out.rp⟩, P8.out.hR⟩) 0 (.int .i64 x.f0)) 1 (.int .i64 x.f1)) 2 (.pointer p)) 3 (.slice A5 x.f3.length c5)) 4 (.slice A6 x.f4.length c6)
      refine bodyPost_ret (results_ct rfl _ _ gR 31 (sgC x p A5 c5 A6 c6) (0, 0) _ rfl (by simpa using S5.2) Tryd.underlying31 rfl (by kernel_rfl)) rfl ?_
      exact ⟨p, A5, c5, A6, c6, rfl, S5.1, below_set (below_set (below_set (below_set (below_set P8.out.b GR_.out) GR_.out) GR_.out) GR_.out) GR_.out⟩
theorem segLoad_good2 (x : G) (A : Option Addr) (c : Nat) (B : Option Addr) (d : Nat) (w : World) (hT : Tabs w) (hr : GR w x A c B d) (h : Sz x) (hv : okB x = true) :
    Calls Tryd.prog 11 #[.agg (gC x A c B d)] w (RetSeg x w) :=
  load_right x A c B d w hT hr h (okB_true hv).1 (okB_true hv).2
end Go.Proofs.YtjphmebhofkhcaaDoor.Seg
/- Contracts of slices.Clone, slices.IndexFunc and slices.DeleteFunc at spans and at sites: what they hand back, in new or in their own memory. Conditions: sizes below 2^47 bytes. -/
namespace Go.Proofs.YtjphmebhofkhcaaDoor.Dr
open Go.RowKit Go.Proofs.YtjphmebhofkhcaaDoorOwn Go.Proofs.YtjphmebhofkhcaaDoorPl Go.Proofs.YtjphmebhofkhcaaDoorW.PrintWords Go.Proofs.YtjphmebhofkhcaaDoorW.PrintLast Go.Proofs.YtjphmebhofkhcaaDoorW.PrintMore Go.Proofs.YtjphmebhofkhcaaDoor.PSegAll
set_option linter.unusedVariables false
set_option linter.unusedSimpArgs false
theorem k67_M_of_K {w : World} {base : Nat} {ok : Nat → Prop} (x : S67) (cs : List Value) (h : k67.K w x cs) : k67.M w base ok x cs := by
  obtain rfl := k67_open h
  exact k67_mkM _ _ _ _
set_option maxHeartbeats 800000 in
set_option maxRecDepth 100000 in
theorem clone67 (A : Option Addr) (c : Nat) (xs : List S67) (w : World) (hr : Kd.C k67 w A xs.length xs) (hc : xs.length ≤ c) (hl : xs.length * 24 ≤ 140737488355328) :
    Calls Tryd.prog 33 #[.slice A xs.length c] w fun e w' => ∃ v, e = .returned v ∧ Kd.R k67 67 w' w.heap.size (fun _ => True) v xs ∧ Below w.heap.size w w' := by
  have qn : ∀ (w : World) (a : Option Addr) (n c : Nat), (binOp .eql 22 (.slice a n c) (.slice none 0 0)).run Tryd.prog w = .ok (.bool a.isNone) w := fun w a n c => Lib.run_eql_slice_nil w _ _ a n c 0 0 Tryd.underlying22
  have HR := Lib.hid hr
  have HC := Lib.hid hc
  have HL := Lib.hid hl
  cases A with
  | none =>
    have hx : xs = [] := by
      rcases Nat.eq_zero_or_pos xs.length with h0 | h0
      · exact List.length_eq_zero_iff.1 h0
      · obtain ⟨_, e, _⟩ := hr.2.2 h0
        cases e
    clear hr hc hl
    go_enter Tryd.func33, Tryd.ntmps33
    go_wp2
    go_ret
    subst hx
    exact ⟨_, rfl, Kd.R_nil _ _ _ _ _, Below.refl _ _⟩
  | some ad =>
    clear hr hc hl
    go_enter Tryd.func33, Tryd.ntmps33
    go_wp2_with (first
      | ((with_reducible refine gate_dst (N := 5) rfl ?_)
         refine Kd.R_lit k67 _ 67 ?hg (N := 5) ?hd (xs := ([] : List S67)) (inner := []) (ok := fun _ => True) (okp := fun _ => True) ?hr ?hp (fun _ hk => hk) trivial (Below.refl _ _) (Nat.le_refl _) (by simp) ?_
         (case hd => rfl); (case hg => rfl); (case hr => first | (go_simp; done) | (go_simp; rfl)); (case hp => exact Reps.none _ _)
         intro v1 w1 HO HB hg hat; have HO1 := Lib.hid HO; have HB1 := Lib.hid HB; clear HO HB hg hat)
      | ((with_reducible refine gate_dst (N := 7) rfl ?_)
         refine Kd.R_append_rows k67 _ ?hg (.tmp 5) (.tmp 6) 22 67 (.agg #[.int .i64 0, .int .i64 0, .int .i64 0]) 24 rfl Tryd.underlying22 info67 rfl (by decide) (by decide) _ [] xs (some ad) xs.length c (fun _ => True) (fun k => some k ≠ v1.ownBlock) rfl rfl HO1.out (Kd.C_below HR.out HB1.out) (fun x cs h => k67_M_of_K x cs h) (fun _ h => ⟨trivial, h⟩) (fun _ _ => trivial) HB1.out (HB1.out.size) (by have := HL.out; simpa using this) ?_
         (case hg => rfl)
         intro v2 w2 HO HB hg hat; have HO2 := Lib.hid HO; have HB2 := Lib.hid HB; clear HO HB hg hat))
    go_ret
    exact ⟨_, rfl, HO2.out, HB2.out⟩

theorem k70_M_of_K {w : World} {base : Nat} {ok : Nat → Prop} (x : S70) (cs : List Value) (h : k70.K w x cs) : k70.M w base ok x cs := by
  obtain rfl := k70_open h
  exact k70_mkM _ _ _ _
set_option maxHeartbeats 800000 in
set_option maxRecDepth 100000 in
theorem clone70 (A : Option Addr) (c : Nat) (xs : List S70) (w : World) (hr : Kd.C k70 w A xs.length xs) (hc : xs.length ≤ c) (hl : xs.length * 16 ≤ 140737488355328) :
    Calls Tryd.prog 34 #[.slice A xs.length c] w fun e w' => ∃ v, e = .returned v ∧ Kd.R k70 70 w' w.heap.size (fun _ => True) v xs ∧ Below w.heap.size w w' := by
  have qn : ∀ (w : World) (a : Option Addr) (n c : Nat), (binOp .eql 23 (.slice a n c) (.slice none 0 0)).run Tryd.prog w = .ok (.bool a.isNone) w := fun w a n c => Lib.run_eql_slice_nil w _ _ a n c 0 0 Tryd.underlying23
  have HR := Lib.hid hr
  have HC := Lib.hid hc
  have HL := Lib.hid hl
  cases A with
  | none =>
    have hx : xs = [] := by
      rcases Nat.eq_zero_or_pos xs.length with h0 | h0
      · exact List.length_eq_zero_iff.1 h0
      · obtain ⟨_, e, _⟩ := hr.2.2 h0
        cases e
    clear hr hc hl
    go_enter Tryd.func34, Tryd.ntmps34
    go_wp2
    go_ret
    subst hx
    exact ⟨_, rfl, Kd.R_nil _ _ _ _ _, Below.refl _ _⟩
  | some ad =>
    clear hr hc hl
    go_enter Tryd.func34, Tryd.ntmps34
    go_wp2_with (first
      | ((with_reducible refine gate_dst (N := 5) rfl ?_)
         refine Kd.R_lit k70 _ 70 ?hg (N := 5) ?hd (xs := ([] : List S70)) (inner := []) (ok := fun _ => True) (okp := fun _ => True) ?hr ?hp (fun _ hk => hk) trivial (Below.refl _ _) (Nat.le_refl _) (by simp) ?_
         (case hd => rfl); (case hg => rfl); (case hr => first | (go_simp; done) | (go_simp; rfl)); (case hp => exact Reps.none _ _)
         intro v1 w1 HO HB hg hat; have HO1 := Lib.hid HO; have HB1 := Lib.hid HB; clear HO HB hg hat)
      | ((with_reducible refine gate_dst (N := 7) rfl ?_)
         refine Kd.R_append_rows k70 _ ?hg (.tmp 5) (.tmp 6) 23 70 (.agg #[.int .i64 0, .int .i64 0]) 16 rfl Tryd.underlying23 info70 rfl (by decide) (by decide) _ [] xs (some ad) xs.length c (fun _ => True) (fun k => some k ≠ v1.ownBlock) rfl rfl HO1.out (Kd.C_below HR.out HB1.out) (fun x cs h => k70_M_of_K x cs h) (fun _ h => ⟨trivial, h⟩) (fun _ _ => trivial) HB1.out (HB1.out.size) (by have := HL.out; simpa using this) ?_
         (case hg => rfl)
         intro v2 w2 HO HB hg hat; have HO2 := Lib.hid HO; have HB2 := Lib.hid HB; clear HO HB hg hat))
    go_ret
    exact ⟨_, rfl, HO2.out, HB2.out⟩

end Go.Proofs.YtjphmebhofkhcaaDoor.Dr
/- The contract of marks.Drop: the spans and the sites of other marks alone. Conditions: sizes below 2^47 bytes. -/
namespace Go.Proofs.YtjphmebhofkhcaaDoor.Dr
open Go.RowKit Go.Proofs.YtjphmebhofkhcaaDoorOwn Go.Proofs.YtjphmebhofkhcaaDoorPl Go.Proofs.YtjphmebhofkhcaaDoorW.PrintWords Go.Proofs.YtjphmebhofkhcaaDoorW.PrintLast Go.Proofs.YtjphmebhofkhcaaDoorW.PrintMore Go.Proofs.YtjphmebhofkhcaaDoor.PSegAll
set_option linter.unusedVariables false
set_option linter.unusedSimpArgs false
end Go.Proofs.YtjphmebhofkhcaaDoor.Dr
/- Segments: the reference's Same at equal values, by hand. Conditions: at most 2^40 spans and sites. -/
namespace Go.Proofs.YtjphmebhofkhcaaDoor.Seg
open Go.RowKit Go.Proofs.YtjphmebhofkhcaaDoorPl Go.Proofs.YtjphmebhofkhcaaDoorW.PrintWords Go.Proofs.YtjphmebhofkhcaaDoorW.PrintLast Go.Proofs.YtjphmebhofkhcaaDoorW.PrintMore Go.Proofs.YtjphmebhofkhcaaDoor.Rope Go.Proofs.YtjphmebhofkhcaaDoor.PSegAll Go.Proofs.YtjphmebhofkhcaaDoor.Pure
set_option linter.unusedVariables false
set_option linter.unusedSimpArgs false
set_option maxRecDepth 1000000 in
set_option maxHeartbeats 8000000 in
theorem same4_true (A A2 B B2 : Option Addr) (c c2 d d2 : Nat) (xs : List S67) (ys : List S70) (w : World) (h1 : Kd.C kS w A xs.length xs) (h2 : Kd.C kS w A2 xs.length xs) (h3 : Kd.C kY w B ys.length ys) (h4 : Kd.C kY w B2 ys.length ys) (hl : xs.length ≤ 1099511627776) (hly : ys.length ≤ 1099511627776) :
    Calls Tryd.prog 60 #[.slice A xs.length c, .slice A2 xs.length c2, .slice B ys.length d, .slice B2 ys.length d2] w fun e w' => e = .returned (.bool true) ∧ Below w.heap.size w w' := by
  have hu67 := Tryd.underlying67
  have hu70 := Tryd.underlying70
  have H1 := Lib.hid h1
  have H2 := Lib.hid h2
  have H3 := Lib.hid h3
  have H4 := Lib.hid h4
  clear h1 h2 h3 h4
  have n1 : ((xs.length : Int) != (xs.length : Int)) = false := by simp
  have n2 : ((ys.length : Int) != (ys.length : Int)) = false := by simp
  go_enter Tryd.func60, Tryd.ntmps60
  go_wp2
  repeat (go_quiet (fail); try go_wp2)
  go_loopw [9] (fun s9 wr => ∃ kk : Nat, kk ≤ xs.length ∧ s9 = .int .i64 (kk : Int) ∧ Hid (Below w.heap.size w wr)) (fun s9 _ => xs.length - Mk.cntM s9)
  case atStart => exact ⟨0, Nat.zero_le _, rfl, Lib.hid (by with_reducible repeat (first | exact Below.refl _ _ | apply pw_below_drewN | apply Below.drew))⟩
  case round =>
    obtain ⟨kk, hkk, rfl, ZW⟩ := hrel
    by_cases hlt : kk < xs.length
    · have d1 : decide ((kk : Int) < (xs.length : Int)) = true := by simp; omega
      have b1 : (0 : Int) ≤ (kk : Int) := by omega
      have b2 : (kk : Int) < (xs.length : Int) := by omega
      have w1_ : IntKind.i64.wrap ((kk : Int) + 1) = (kk : Int) + 1 := IntWalk.i64_in _ (by omega)
      obtain ⟨x, hx⟩ : ∃ x, xs[kk]? = some x := ⟨_, List.getElem?_eq_getElem hlt⟩
      obtain ⟨ad, e0, y0, y1, y2⟩ := Mk.at_S (Kd.C_below H1.out ZW.out) hx hlt
      subst e0
      obtain ⟨ad2, e2, z0, z1, z2⟩ := Mk.at_S (Kd.C_below H2.out ZW.out) hx hlt
      subst e2
      clear hx
      have p0 : (x.f0 == x.f0) = true := by simp
      have p1 : (x.f1 == x.f1) = true := by simp
      have p2 : (x.f2 == x.f2) = true := by simp
      go_wp2
      repeat (go_quiet (fail); try go_wp2)
      go_roundw
      case rel => exact ⟨kk + 1, by omega, by go_num, Lib.hid (below_step ZW.out (by with_reducible repeat (first | exact Below.refl _ _ | apply pw_below_drewN | apply Below.drew)))⟩
      case measure =>
        simp only [Mk.cntM]
        omega
    · have d1 : decide ((kk : Int) < (xs.length : Int)) = false := by simp; omega
      have BB := ZW
      clear ZW
      go_wp2
      repeat (go_quiet (fail); try go_wp2)
      clear d1 hlt hkk
      go_loopw [10] (fun s10 wq => ∃ jj : Nat, jj ≤ ys.length ∧ s10 = .int .i64 (jj : Int) ∧ Hid (Below w.heap.size w wq)) (fun s10 _ => ys.length - Mk.cntM s10)
      case atStart => exact ⟨0, Nat.zero_le _, rfl, Lib.hid (below_step BB.out (by with_reducible repeat (first | exact Below.refl _ _ | apply pw_below_drewN | apply Below.drew)))⟩
      case round =>
        clear BB
        obtain ⟨jj, hjj, rfl, ZQ⟩ := hrel
        by_cases hlt : jj < ys.length
        · have d1 : decide ((jj : Int) < (ys.length : Int)) = true := by simp; omega
          have b1 : (0 : Int) ≤ (jj : Int) := by omega
          have b2 : (jj : Int) < (ys.length : Int) := by omega
          have w1_ : IntKind.i64.wrap ((jj : Int) + 1) = (jj : Int) + 1 := IntWalk.i64_in _ (by omega)
          obtain ⟨y, hy⟩ : ∃ y, ys[jj]? = some y := ⟨_, List.getElem?_eq_getElem hlt⟩
          obtain ⟨ad, e0, y0, y1⟩ := Mk.at_Y (Kd.C_below H3.out ZQ.out) hy hlt
          subst e0
          obtain ⟨ad2, e2, z0, z1⟩ := Mk.at_Y (Kd.C_below H4.out ZQ.out) hy hlt
          subst e2
          clear hy
          have p0 : (y.f0 == y.f0) = true := by simp
          have p1 : (y.f1 == y.f1) = true := by simp
          go_wp2
          repeat (go_quiet (fail); try go_wp2)
          go_roundw
          case rel => exact ⟨jj + 1, by omega, by go_num, Lib.hid (below_step ZQ.out (by with_reducible repeat (first | exact Below.refl _ _ | apply pw_below_drewN | apply Below.drew)))⟩
          case measure =>
            simp only [Mk.cntM]
            omega
        · have d1 : decide ((jj : Int) < (ys.length : Int)) = false := by simp; omega
          go_wp2
          repeat (go_quiet (fail); try go_wp2)
          go_ret
          exact ⟨rfl, below_step ZQ.out (by with_reducible repeat (first | exact Below.refl _ _ | apply pw_below_drewN | apply Below.drew))⟩
/-- The two segments in blocks. -/
structure SQ (w : World) (x : G) (A : Option Addr) (c : Nat) (B : Option Addr) (d : Nat) (A2 : Option Addr) (c2 : Nat) (B2 : Option Addr) (d2 : Nat) (W : World) : Prop where
  b : Below w.heap.size w W
  h2 : W.heap[w.heap.size]? = some (.cells (gC x A c B d) 25 (0, 0))
  h3 : W.heap[w.heap.size + 1]? = some (.cells (gC x A2 c2 B2 d2) 25 (0, 0))
set_option maxRecDepth 1000000 in
set_option maxHeartbeats 8000000 in
theorem same5_true (x : G) (A : Option Addr) (c : Nat) (B : Option Addr) (d : Nat) (A2 : Option Addr) (c2 : Nat) (B2 : Option Addr) (d2 : Nat) (w : World) (h1 : GR w x A c B d) (h2 : GR w x A2 c2 B2 d2) (hz : Sz x) :
    Calls Tryd.prog 30 #[.agg (gC x A c B d), .agg (gC x A2 c2 B2 d2)] w fun e w' => e = .returned (.bool true) ∧ Below w.heap.size w w' := by
  have H1 := Lib.hid h1
  have H2 := Lib.hid h2
  have HZ := Lib.hid hz
  clear h1 h2 hz
  have p0 : (x.f0 == x.f0) = true := by simp
  have p1 : (x.f1 == x.f1) = true := by simp
  go_enter Tryd.func30, Tryd.ntmps30
  go_upto_region 1 with fail
  refine gen2 (φ := fun W => Code.wp _ _ _ _ W) (P := fun W => SQ w x A c B d A2 c2 B2 d2 W) ⟨below_alloc (below_alloc (Below.refl _ _) _) _, blk_alloc (blk_new w _) _, blk_newS (by simp)⟩ ?_
  rintro V hV
  have ZV := Lib.hid hV
  have y0 := (blk_cell hV.h2 0).trans rfl
  have y1 := (blk_cell hV.h2 1).trans rfl
  have y2 := (blk_cell hV.h2 2).trans rfl
  have y3 := (blk_cell hV.h2 3).trans rfl
  have y4 := (blk_cell hV.h2 4).trans rfl
  have z0 := (blk_cell hV.h3 0).trans rfl
  have z1 := (blk_cell hV.h3 1).trans rfl
  have z2 := (blk_cell hV.h3 2).trans rfl
  have z3 := (blk_cell hV.h3 3).trans rfl
  have z4 := (blk_cell hV.h3 4).trans rfl
  clear hV
  go_wp2_with (go_at_call 60; (refine (same4_true A A2 B B2 c c2 d d2 x.f3 x.f4 _ (Kd.C_below H1.out.r3 ZV.out.b) (Kd.C_below H2.out.r3 ZV.out.b) (Kd.C_below H1.out.r4 ZV.out.b) (Kd.C_below H2.out.r4 ZV.out.b) HZ.out.s3 HZ.out.s4).mono ?_); rintro e w1 ⟨rfl, hb⟩; have B1 := Lib.hid (below_step ZV.out.b hb); clear hb)
  go_ret
  exact ⟨rfl, B1.out⟩
end Go.Proofs.YtjphmebhofkhcaaDoor.Seg
/- Segments: the reference's Right of marks, by hand. Conditions: at most 2^40 spans and sites. -/
namespace Go.Proofs.YtjphmebhofkhcaaDoor.Seg
open Go.RowKit Go.Proofs.YtjphmebhofkhcaaDoorPl Go.Proofs.YtjphmebhofkhcaaDoorW.PrintWords Go.Proofs.YtjphmebhofkhcaaDoorW.PrintLast Go.Proofs.YtjphmebhofkhcaaDoorW.PrintMore Go.Proofs.YtjphmebhofkhcaaDoor.Rope Go.Proofs.YtjphmebhofkhcaaDoor.PSegAll Go.Proofs.YtjphmebhofkhcaaDoor.Pure
set_option linter.unusedVariables false
set_option linter.unusedSimpArgs false
theorem span_no {n : Int} {p : Option S67} {x : S67} (h : x.f0 ≤ 0 ∨ x.f1 < 0 ∨ x.f2 ≤ x.f1 ∨ n < x.f2) : spanOk n p x = false := by
  refine Bool.eq_false_iff.2 fun g => ?_
  simp only [spanOk, Bool.and_eq_true, decide_eq_true_eq] at g
  omega
theorem span_no2 {n : Int} {q x : S67} (h : x.f1 < q.f2 ∨ x.f1 = q.f2 ∧ x.f0 = q.f0) : spanOk n (some q) x = false := by
  refine Bool.eq_false_iff.2 fun g => ?_
  simp only [spanOk, Bool.and_eq_true, Bool.or_eq_true, decide_eq_true_eq] at g
  omega
theorem span_yes {n : Int} {p : Option S67} {x : S67} (h1 : ¬ x.f0 ≤ 0) (h2 : ¬ x.f1 < 0) (h3 : ¬ x.f2 ≤ x.f1) (h4 : ¬ n < x.f2) (h : ∀ q, p = some q → ¬ x.f1 < q.f2 ∧ (x.f1 = q.f2 → ¬ x.f0 = q.f0)) : spanOk n p x = true := by
  cases p with
  | none => simp [spanOk]; omega
  | some q =>
    have := h q rfl
    simp only [spanOk, Bool.and_eq_true, Bool.or_eq_true, decide_eq_true_eq]
    omega
theorem site_no {n : Int} {p : Option S70} {x : S70} (h : x.f0 ≤ 0 ∨ x.f1 < 0 ∨ n < x.f1) : siteOk n p x = false := by
  refine Bool.eq_false_iff.2 fun g => ?_
  simp only [siteOk, Bool.and_eq_true, decide_eq_true_eq] at g
  omega
theorem site_no2 {n : Int} {q x : S70} (h : x.f1 < q.f1 ∨ x.f1 = q.f1 ∧ x.f0 ≤ q.f0) : siteOk n (some q) x = false := by
  refine Bool.eq_false_iff.2 fun g => ?_
  simp only [siteOk, Bool.and_eq_true, Bool.or_eq_true, decide_eq_true_eq] at g
  omega
theorem site_yes {n : Int} {p : Option S70} {x : S70} (h1 : ¬ x.f0 ≤ 0) (h2 : ¬ x.f1 < 0) (h4 : ¬ n < x.f1) (h : ∀ q, p = some q → ¬ x.f1 < q.f1 ∧ (x.f1 = q.f1 → ¬ x.f0 ≤ q.f0)) : siteOk n p x = true := by
  cases p with
  | none => simp [siteOk]; omega
  | some q =>
    have := h q rfl
    simp only [siteOk, Bool.and_eq_true, Bool.or_eq_true, decide_eq_true_eq]
    omega
/-- The element ahead of i. -/
def prv {α : Type} (xs : List α) (i : Nat) : Option α := if i = 0 then none else xs[i - 1]?
theorem ahead_at {α : Type} {xs : List α} {j : Nat} {p : α} (h : xs[j]? = some p) : prv xs (j + 1) = some p := by
  unfold prv
  rw [if_neg (by omega)]
  exact h
theorem spans_step {n : Int} {xs : List S67} {kk : Nat} {x : S67} (h : xs[kk]? = some x) : spansOk n (prv xs kk) (xs.drop kk) = (spanOk n (prv xs kk) x && spansOk n (prv xs (kk + 1)) (xs.drop (kk + 1))) := by
  obtain ⟨h1, h2⟩ := List.getElem?_eq_some_iff.1 h
  rw [List.drop_eq_getElem_cons h1, h2, ahead_at h]
  rfl
theorem sites_step {n : Int} {xs : List S70} {kk : Nat} {x : S70} (h : xs[kk]? = some x) : sitesOk n (prv xs kk) (xs.drop kk) = (siteOk n (prv xs kk) x && sitesOk n (prv xs (kk + 1)) (xs.drop (kk + 1))) := by
  obtain ⟨h1, h2⟩ := List.getElem?_eq_some_iff.1 h
  rw [List.drop_eq_getElem_cons h1, h2, ahead_at h]
  rfl
set_option maxRecDepth 1000000 in
set_option maxHeartbeats 16000000 in
theorem right4_calls (A : Option Addr) (c : Nat) (xs : List S67) (B : Option Addr) (d : Nat) (ys : List S70) (n : Int) (w : World) (hr : Kd.C kS w A xs.length xs) (hs : Kd.C kY w B ys.length ys) (hl : xs.length ≤ 1099511627776) (hly : ys.length ≤ 1099511627776) :
    Calls Tryd.prog 38 #[.agg #[.slice A xs.length c, .slice B ys.length d], .int .i64 n] w fun e w' => e = .returned (.bool (rightB n xs ys)) ∧ Below w.heap.size w w' := by
  have HR := Lib.hid hr
  have HS := Lib.hid hs
  clear hr hs
  go_enter Tryd.func38, Tryd.ntmps38
  go_upto_region 1 with fail
  refine gen2 (φ := fun W => Code.wp _ _ _ _ W) (P := fun W => Below w.heap.size w W ∧ W.heap[w.heap.size]? = some (.cells #[.slice A xs.length c, .slice B ys.length d] 74 (0, 0))) ⟨below_alloc (Below.refl _ _) _, blk_new w _⟩ ?_
  rintro V ⟨hb, h2⟩
  have BV := Lib.hid hb
  have XM := Lib.hid h2
  clear hb h2
  go_wp2
  go_loopw [5] (fun s5 wr => ∃ kk : Nat, kk ≤ xs.length ∧ s5 = .int .i64 (kk : Int) ∧ Hid (Below V.heap.size V wr ∧ spansOk n none xs = spansOk n (prv xs kk) (xs.drop kk))) (fun s5 _ => xs.length - Mk.cntM s5)
  case atStart => exact ⟨0, Nat.zero_le _, rfl, Lib.hid ⟨Below.refl _ _, rfl⟩⟩
  case round =>
    obtain ⟨kk, hkk, rfl, ZW⟩ := hrel
    have m0 := (blk_cell (blk_below XM.out ZW.out.1) 0).trans rfl
    by_cases hlt : kk < xs.length
    · have d1 : decide ((kk : Int) < (xs.length : Int)) = true := by simp; omega
      have b1 : (0 : Int) ≤ (kk : Int) := by omega
      have b2 : (kk : Int) < (xs.length : Int) := by omega
      have w1_ : IntKind.i64.wrap ((kk : Int) + 1) = (kk : Int) + 1 := IntWalk.i64_in _ (by omega)
      obtain ⟨x, hx⟩ : ∃ x, xs[kk]? = some x := ⟨_, List.getElem?_eq_getElem hlt⟩
      obtain ⟨ad, e0, y0, y1, y2⟩ := Mk.at_S (Kd.C_below HR.out (below_step BV.out ZW.out.1)) hx hlt
      have HE := Lib.hid (ZW.out.2.trans (spans_step hx))
      clear hx
      subst e0
      go_upto_region 5 with (first | ((with_reducible refine gate_dst (N := 6) rfl ?_); refine box_event ?hg (N := 6) ?hd (cs := #[.int .i64 0, .int .i64 0, .int .i64 0]) (t := 67) ?hr ?_; (case hd => rfl); (case hg => rfl); (case hr => first | (go_simp; done) | (go_simp; rfl)); intro gB hgB wB hxB hbB; have GB := Lib.hid (show Mk.TBm 67 wr gB #[.int .i64 0, .int .i64 0, .int .i64 0] wB from ⟨hbB, by rw [hgB]; exact Nat.le_refl _, hxB⟩); have q0 := (blk_cell hxB 0).trans rfl; have q1 := (blk_cell hxB 1).trans rfl; have q2 := (blk_cell hxB 2).trans rfl; have z0 := blk_frozen hxB 0; have z1 := blk_frozen hxB 1; have z2 := blk_frozen hxB 2; clear hgB hxB hbB))
      refine gen2 (φ := fun W => Code.wp _ _ _ _ W) (P := fun W => Mk.TBm 67 wr gB #[.int .i64 x.f0, .int .i64 x.f1, .int .i64 x.f2] W) (((GB.out.set 0 (.int .i64 x.f0)).set 1 (.int .i64 x.f1)).set 2 (.int .i64 x.f2)) ?_
      clear q0 q1 q2 z0 z1 z2 GB y0 y1 y2 m0
      rintro V3 hV3
      have B3 := Lib.hid (below_step ZW.out.1 hV3.b)
      have t0 := (blk_cell hV3.hx 0).trans rfl
      have t1 := (blk_cell hV3.hx 1).trans rfl
      have t2 := (blk_cell hV3.hx 2).trans rfl
      have m0 := (blk_cell (blk_below XM.out B3.out) 0).trans rfl
      clear hV3 ZW
      by_cases h1 : x.f0 ≤ 0
      · have E : rightB n xs ys = false := by
          unfold rightB
          rw [HE.out, span_no (by omega)]
          rfl
        have c1 : decide (x.f0 ≤ 0) = true := by simp; omega
        have k1 : (x.f0 ≤ 0) := h1
        go_wp2
        repeat (go_quiet (fail); try go_wp2)
        go_ret
        (try rw [E])
        exact ⟨rfl, below_step BV.out (below_step B3.out (by with_reducible repeat (first | exact Below.refl _ _ | apply pw_below_drewN | apply Below.drew)))⟩
      · have c1 : decide (x.f0 ≤ 0) = false := by simp; omega
        have k1 : ¬ (x.f0 ≤ 0) := h1
        by_cases h2 : x.f1 < 0
        · have E : rightB n xs ys = false := by
            unfold rightB
            rw [HE.out, span_no (by omega)]
            rfl
          have c2 : decide (x.f1 < 0) = true := by simp; omega
          have k2 : (x.f1 < 0) := h2
          go_wp2
          repeat (go_quiet (fail); try go_wp2)
          go_ret
          (try rw [E])
          exact ⟨rfl, below_step BV.out (below_step B3.out (by with_reducible repeat (first | exact Below.refl _ _ | apply pw_below_drewN | apply Below.drew)))⟩
        · have c2 : decide (x.f1 < 0) = false := by simp; omega
          have k2 : ¬ (x.f1 < 0) := h2
          by_cases h3 : x.f2 ≤ x.f1
          · have E : rightB n xs ys = false := by
              unfold rightB
              rw [HE.out, span_no (by omega)]
              rfl
            have c3 : decide (x.f2 ≤ x.f1) = true := by simp; omega
            have k3 : (x.f2 ≤ x.f1) := h3
            go_wp2
            repeat (go_quiet (fail); try go_wp2)
            go_ret
            (try rw [E])
            exact ⟨rfl, below_step BV.out (below_step B3.out (by with_reducible repeat (first | exact Below.refl _ _ | apply pw_below_drewN | apply Below.drew)))⟩
          · have c3 : decide (x.f2 ≤ x.f1) = false := by simp; omega
            have k3 : ¬ (x.f2 ≤ x.f1) := h3
            by_cases h4 : n < x.f2
            · have E : rightB n xs ys = false := by
                unfold rightB
                rw [HE.out, span_no (by omega)]
                rfl
              have c4 : decide (n < x.f2) = true := by simp; omega
              have k4 : (n < x.f2) := h4
              go_wp2
              repeat (go_quiet (fail); try go_wp2)
              go_ret
              (try rw [E])
              exact ⟨rfl, below_step BV.out (below_step B3.out (by with_reducible repeat (first | exact Below.refl _ _ | apply pw_below_drewN | apply Below.drew)))⟩
            · have c4 : decide (n < x.f2) = false := by simp; omega
              have k4 : ¬ (n < x.f2) := h4
              by_cases hk : kk = 0
              · have dk : decide ((0 : Int) < (kk : Int)) = false := by simp [hk]
                have nk : ¬ (0 : Int) < (kk : Int) := by omega
                have HN := Lib.hid (HE.out.trans (by rw [span_yes h1 h2 h3 h4 (fun q hq => by rw [hk] at hq; simp [prv] at hq), Bool.true_and]))
                go_wp2
                repeat (go_quiet (fail); try go_wp2)
                go_roundw
                case rel => exact ⟨kk + 1, by omega, by go_num, Lib.hid ⟨below_step B3.out (by with_reducible repeat (first | exact Below.refl _ _ | apply pw_below_drewN | apply Below.drew)), HN.out⟩⟩
                case measure =>
                  simp only [Mk.cntM]
                  omega
              · obtain ⟨jj, rfl⟩ : ∃ jj, kk = jj + 1 := ⟨kk - 1, by omega⟩
                have dk : decide ((0 : Int) < ((jj + 1 : Nat) : Int)) = true := by simp
                have wp_ : IntKind.i64.wrap (((jj + 1 : Nat) : Int) - 1) = (jj : Int) := by rw [show ((jj + 1 : Nat) : Int) - 1 = (jj : Int) by omega]; exact IntWalk.i64_in _ (by omega)
                have p1 : (0 : Int) ≤ (jj : Int) := by omega
                have p2 : (jj : Int) < (xs.length : Int) := by omega
                obtain ⟨p, hp⟩ : ∃ p, xs[jj]? = some p := ⟨_, List.getElem?_eq_getElem (by omega)⟩
                obtain ⟨ad2, e2, y0, y1, y2⟩ := Mk.at_S (Kd.C_below HR.out (below_step BV.out B3.out)) hp (by omega)
                injection e2 with e2
                subst e2
                have HP := Lib.hid (ahead_at hp)
                clear hp
                by_cases h5 : x.f1 < p.f2
                · have E : rightB n xs ys = false := by
                    unfold rightB
                    rw [HE.out, HP.out, span_no2 (by omega)]
                    rfl
                  have c5 : decide (x.f1 < p.f2) = true := by simp; omega
                  have k5 : (x.f1 < p.f2) := h5
                  go_wp2
                  repeat (go_quiet (fail); try go_wp2)
                  go_ret
                  (try rw [E])
                  exact ⟨rfl, below_step BV.out (below_step B3.out (by with_reducible repeat (first | exact Below.refl _ _ | apply pw_below_drewN | apply Below.drew)))⟩
                · have c5 : decide (x.f1 < p.f2) = false := by simp; omega
                  have k5 : ¬ (x.f1 < p.f2) := h5
                  by_cases h6 : x.f1 = p.f2
                  · by_cases h7 : x.f0 = p.f0
                    · have E : rightB n xs ys = false := by
                        unfold rightB
                        rw [HE.out, HP.out, span_no2 (by omega)]
                        rfl
                      have H6 := Lib.hid h6
                      have H7 := Lib.hid h7
                      have c6 : (x.f1 == p.f2) = true := by simpa using h6
                      have e6 : decide (x.f1 = p.f2) = true := by simpa using h6
                      have c7 : (x.f0 == p.f0) = true := by simpa using h7
                      have e7 : decide (x.f0 = p.f0) = true := by simpa using h7
                      clear h7
                      clear h6
                      go_wp2
                      repeat (go_quiet (fail); try go_wp2)
                      go_ret
                      (try rw [E])
                      exact ⟨rfl, below_step BV.out (below_step B3.out (by with_reducible repeat (first | exact Below.refl _ _ | apply pw_below_drewN | apply Below.drew)))⟩
                    · have c6 : (x.f1 == p.f2) = true := by simpa using h6
                      have e6 : decide (x.f1 = p.f2) = true := by simpa using h6
                      have H6 := Lib.hid h6
                      clear h6
                      have c7 : (x.f0 == p.f0) = false := by simpa using h7
                      have e7 : decide (x.f0 = p.f0) = false := by simpa using h7
                      have HN := Lib.hid (HE.out.trans (by rw [span_yes h1 h2 h3 h4 (fun q hq => by rw [HP.out] at hq; injection hq with hq; subst hq; exact ⟨h5, fun _ => h7⟩), Bool.true_and]))
                      go_wp2
                      repeat (go_quiet (fail); try go_wp2)
                      go_roundw
                      case rel => exact ⟨jj + 1 + 1, by omega, by go_num, Lib.hid ⟨below_step B3.out (by with_reducible repeat (first | exact Below.refl _ _ | apply pw_below_drewN | apply Below.drew)), HN.out⟩⟩
                      case measure =>
                        simp only [Mk.cntM]
                        omega
                  · have c6 : (x.f1 == p.f2) = false := by simpa using h6
                    have e6 : decide (x.f1 = p.f2) = false := by simpa using h6
                    have HN := Lib.hid (HE.out.trans (by rw [span_yes h1 h2 h3 h4 (fun q hq => by rw [HP.out] at hq; injection hq with hq; subst hq; exact ⟨h5, fun e => absurd e h6⟩), Bool.true_and]))
                    go_wp2
                    repeat (go_quiet (fail); try go_wp2)
                    go_roundw
                    case rel => exact ⟨jj + 1 + 1, by omega, by go_num, Lib.hid ⟨below_step B3.out (by with_reducible repeat (first | exact Below.refl _ _ | apply pw_below_drewN | apply Below.drew)), HN.out⟩⟩
                    case measure =>
                      simp only [Mk.cntM]
                      omega
    · have d1 : decide ((kk : Int) < (xs.length : Int)) = false := by simp; omega
      have m1 := (blk_cell (blk_below XM.out ZW.out.1) 1).trans rfl
      have ZA := Lib.hid (show Below V.heap.size V wr ∧ spansOk n none xs = true by
        refine ⟨ZW.out.1, ?_⟩
        rw [ZW.out.2, List.drop_of_length_le (by omega)]
        rfl)
      clear ZW
      go_wp2
      clear m1 m0 d1 hlt hkk
      go_loopw [7] (fun s7 wq => ∃ kk : Nat, kk ≤ ys.length ∧ s7 = .int .i64 (kk : Int) ∧ Hid (Below V.heap.size V wq ∧ spansOk n none xs = true ∧ sitesOk n none ys = sitesOk n (prv ys kk) (ys.drop kk))) (fun s7 _ => ys.length - Mk.cntM s7)
      case atStart => exact ⟨0, Nat.zero_le _, rfl, Lib.hid ⟨ZA.out.1, ZA.out.2, rfl⟩⟩
      case round =>
        clear ZA
        obtain ⟨kk, hkk, rfl, ZW⟩ := hrel
        have m1 := (blk_cell (blk_below XM.out ZW.out.1) 1).trans rfl
        by_cases hlt : kk < ys.length
        · have d1 : decide ((kk : Int) < (ys.length : Int)) = true := by simp; omega
          have b1 : (0 : Int) ≤ (kk : Int) := by omega
          have b2 : (kk : Int) < (ys.length : Int) := by omega
          have w1_ : IntKind.i64.wrap ((kk : Int) + 1) = (kk : Int) + 1 := IntWalk.i64_in _ (by omega)
          obtain ⟨x, hx⟩ : ∃ x, ys[kk]? = some x := ⟨_, List.getElem?_eq_getElem hlt⟩
          obtain ⟨ad, e0, y0, y1⟩ := Mk.at_Y (Kd.C_below HS.out (below_step BV.out ZW.out.1)) hx hlt
          have HE := Lib.hid (ZW.out.2.2.trans (sites_step hx))
          have HX := Lib.hid ZW.out.2.1
          clear hx
          subst e0
          go_upto_region 13 with (first | ((with_reducible refine gate_dst (N := 8) rfl ?_); refine box_event ?hg (N := 8) ?hd (cs := #[.int .i64 0, .int .i64 0]) (t := 70) ?hr ?_; (case hd => rfl); (case hg => rfl); (case hr => first | (go_simp; done) | (go_simp; rfl)); intro gB hgB wB hxB hbB; have GB := Lib.hid (show Mk.TBm 70 wr gB #[.int .i64 0, .int .i64 0] wB from ⟨hbB, by rw [hgB]; exact Nat.le_refl _, hxB⟩); have q0 := (blk_cell hxB 0).trans rfl; have q1 := (blk_cell hxB 1).trans rfl; have z0 := blk_frozen hxB 0; have z1 := blk_frozen hxB 1; clear hgB hxB hbB))
          refine gen2 (φ := fun W => Code.wp _ _ _ _ W) (P := fun W => Mk.TBm 70 wr gB #[.int .i64 x.f0, .int .i64 x.f1] W) ((GB.out.set 0 (.int .i64 x.f0)).set 1 (.int .i64 x.f1)) ?_
          clear q0 q1 z0 z1 GB y0 y1 m1
          rintro V3 hV3
          have B3 := Lib.hid (below_step ZW.out.1 hV3.b)
          have t0 := (blk_cell hV3.hx 0).trans rfl
          have t1 := (blk_cell hV3.hx 1).trans rfl
          have m1 := (blk_cell (blk_below XM.out B3.out) 1).trans rfl
          clear hV3 ZW
          by_cases h1 : x.f0 ≤ 0
          · have E : rightB n xs ys = false := by
              unfold rightB
              rw [HX.out, HE.out, site_no (by omega)]
              simp
            have c1 : decide (x.f0 ≤ 0) = true := by simp; omega
            have k1 : (x.f0 ≤ 0) := h1
            go_wp2
            repeat (go_quiet (fail); try go_wp2)
            go_ret
            (try rw [E])
            exact ⟨rfl, below_step BV.out (below_step B3.out (by with_reducible repeat (first | exact Below.refl _ _ | apply pw_below_drewN | apply Below.drew)))⟩
          · have c1 : decide (x.f0 ≤ 0) = false := by simp; omega
            have k1 : ¬ (x.f0 ≤ 0) := h1
            by_cases h2 : x.f1 < 0
            · have E : rightB n xs ys = false := by
                unfold rightB
                rw [HX.out, HE.out, site_no (by omega)]
                simp
              have c2 : decide (x.f1 < 0) = true := by simp; omega
              have k2 : (x.f1 < 0) := h2
              go_wp2
              repeat (go_quiet (fail); try go_wp2)
              go_ret
              (try rw [E])
              exact ⟨rfl, below_step BV.out (below_step B3.out (by with_reducible repeat (first | exact Below.refl _ _ | apply pw_below_drewN | apply Below.drew)))⟩
            · have c2 : decide (x.f1 < 0) = false := by simp; omega
              have k2 : ¬ (x.f1 < 0) := h2
              by_cases h4 : n < x.f1
              · have E : rightB n xs ys = false := by
                  unfold rightB
                  rw [HX.out, HE.out, site_no (by omega)]
                  simp
                have c4 : decide (n < x.f1) = true := by simp; omega
                have k4 : (n < x.f1) := h4
                go_wp2
                repeat (go_quiet (fail); try go_wp2)
                go_ret
                (try rw [E])
                exact ⟨rfl, below_step BV.out (below_step B3.out (by with_reducible repeat (first | exact Below.refl _ _ | apply pw_below_drewN | apply Below.drew)))⟩
              · have c4 : decide (n < x.f1) = false := by simp; omega
                have k4 : ¬ (n < x.f1) := h4
                by_cases hk : kk = 0
                · have dk : decide ((0 : Int) < (kk : Int)) = false := by simp [hk]
                  have nk : ¬ (0 : Int) < (kk : Int) := by omega
                  have HN := Lib.hid (HE.out.trans (by rw [site_yes h1 h2 h4 (fun q hq => by rw [hk] at hq; simp [prv] at hq), Bool.true_and]))
                  go_wp2
                  repeat (go_quiet (fail); try go_wp2)
                  go_roundw
                  case rel => exact ⟨kk + 1, by omega, by go_num, Lib.hid ⟨below_step B3.out (by with_reducible repeat (first | exact Below.refl _ _ | apply pw_below_drewN | apply Below.drew)), HX.out, HN.out⟩⟩
                  case measure =>
                    simp only [Mk.cntM]
                    omega
                · obtain ⟨jj, rfl⟩ : ∃ jj, kk = jj + 1 := ⟨kk - 1, by omega⟩
                  have dk : decide ((0 : Int) < ((jj + 1 : Nat) : Int)) = true := by simp
                  have wp_ : IntKind.i64.wrap (((jj + 1 : Nat) : Int) - 1) = (jj : Int) := by rw [show ((jj + 1 : Nat) : Int) - 1 = (jj : Int) by omega]; exact IntWalk.i64_in _ (by omega)
                  have p1 : (0 : Int) ≤ (jj : Int) := by omega
                  have p2 : (jj : Int) < (ys.length : Int) := by omega
                  obtain ⟨p, hp⟩ : ∃ p, ys[jj]? = some p := ⟨_, List.getElem?_eq_getElem (by omega)⟩
                  obtain ⟨ad2, e2, y0, y1⟩ := Mk.at_Y (Kd.C_below HS.out (below_step BV.out B3.out)) hp (by omega)
                  injection e2 with e2
                  subst e2
                  have HP := Lib.hid (ahead_at hp)
                  clear hp
                  by_cases h5 : x.f1 < p.f1
                  · have E : rightB n xs ys = false := by
                      unfold rightB
                      rw [HX.out, HE.out, HP.out, site_no2 (by omega)]
                      simp
                    have c5 : decide (x.f1 < p.f1) = true := by simp; omega
                    have k5 : (x.f1 < p.f1) := h5
                    go_wp2
                    repeat (go_quiet (fail); try go_wp2)
                    go_ret
                    (try rw [E])
                    exact ⟨rfl, below_step BV.out (below_step B3.out (by with_reducible repeat (first | exact Below.refl _ _ | apply pw_below_drewN | apply Below.drew)))⟩
                  · have c5 : decide (x.f1 < p.f1) = false := by simp; omega
                    have k5 : ¬ (x.f1 < p.f1) := h5
                    by_cases h6 : x.f1 = p.f1
                    · by_cases h7 : x.f0 ≤ p.f0
                      · have E : rightB n xs ys = false := by
                          unfold rightB
                          rw [HX.out, HE.out, HP.out, site_no2 (by omega)]
                          simp
                        have H6 := Lib.hid h6
                        have H7 := Lib.hid h7
                        have c6 : (x.f1 == p.f1) = true := by simpa using h6
                        have e6 : decide (x.f1 = p.f1) = true := by simpa using h6
                        have c7 : decide (x.f0 ≤ p.f0) = true := by simp; omega
                        have k7 : (x.f0 ≤ p.f0) := h7
                        clear h6
                        go_wp2
                        repeat (go_quiet (fail); try go_wp2)
                        go_ret
                        (try rw [E])
                        exact ⟨rfl, below_step BV.out (below_step B3.out (by with_reducible repeat (first | exact Below.refl _ _ | apply pw_below_drewN | apply Below.drew)))⟩
                      · have c6 : (x.f1 == p.f1) = true := by simpa using h6
                        have e6 : decide (x.f1 = p.f1) = true := by simpa using h6
                        have H6 := Lib.hid h6
                        clear h6
                        have c7 : decide (x.f0 ≤ p.f0) = false := by simp; omega
                        have k7 : ¬ (x.f0 ≤ p.f0) := h7
                        have HN := Lib.hid (HE.out.trans (by rw [site_yes h1 h2 h4 (fun q hq => by rw [HP.out] at hq; injection hq with hq; subst hq; exact ⟨h5, fun _ => h7⟩), Bool.true_and]))
                        go_wp2
                        repeat (go_quiet (fail); try go_wp2)
                        go_roundw
                        case rel => exact ⟨jj + 1 + 1, by omega, by go_num, Lib.hid ⟨below_step B3.out (by with_reducible repeat (first | exact Below.refl _ _ | apply pw_below_drewN | apply Below.drew)), HX.out, HN.out⟩⟩
                        case measure =>
                          simp only [Mk.cntM]
                          omega
                    · have c6 : (x.f1 == p.f1) = false := by simpa using h6
                      have e6 : decide (x.f1 = p.f1) = false := by simpa using h6
                      have HN := Lib.hid (HE.out.trans (by rw [site_yes h1 h2 h4 (fun q hq => by rw [HP.out] at hq; injection hq with hq; subst hq; exact ⟨h5, fun e => absurd e h6⟩), Bool.true_and]))
                      go_wp2
                      repeat (go_quiet (fail); try go_wp2)
                      go_roundw
                      case rel => exact ⟨jj + 1 + 1, by omega, by go_num, Lib.hid ⟨below_step B3.out (by with_reducible repeat (first | exact Below.refl _ _ | apply pw_below_drewN | apply Below.drew)), HX.out, HN.out⟩⟩
                      case measure =>
                        simp only [Mk.cntM]
                        omega
        · have d1 : decide ((kk : Int) < (ys.length : Int)) = false := by simp; omega
          have E : rightB n xs ys = true := by
            unfold rightB
            rw [ZW.out.2.1, ZW.out.2.2, List.drop_of_length_le (by omega)]
            rfl
          go_wp2
          go_ret
          (try rw [E])
          exact ⟨rfl, below_step BV.out ZW.out.1⟩
end Go.Proofs.YtjphmebhofkhcaaDoor.Seg
/- Segments: the reference's Right of a segment, over the contract of its marks' by hand. Conditions: at most 2^40 bytes, spans and sites. -/
namespace Go.Proofs.YtjphmebhofkhcaaDoor.Seg
open Go.RowKit Go.Proofs.YtjphmebhofkhcaaDoorPl Go.Proofs.YtjphmebhofkhcaaDoorW.PrintWords Go.Proofs.YtjphmebhofkhcaaDoorW.PrintLast Go.Proofs.YtjphmebhofkhcaaDoorW.PrintMore Go.Proofs.YtjphmebhofkhcaaDoor.Rope Go.Proofs.YtjphmebhofkhcaaDoor.PSegAll Go.Proofs.YtjphmebhofkhcaaDoor.Pure
set_option linter.unusedVariables false
set_option linter.unusedSimpArgs false
set_option maxRecDepth 1000000 in
set_option maxHeartbeats 4000000 in
theorem right5_hw (x : G) (A : Option Addr) (c : Nat) (B : Option Addr) (d : Nat) (k1 k2 : Nat) (b1 : Bool) (n : Int) (b2 : Bool) (w : World) (hr : GR w x A c B d) (h1 : chancelref01_Right.f k1 x.f2 = some b1) (h2 : b1 = true → chancelref01_Count.f k2 x.f2 = some n) (h3 : rightB n x.f3 x.f4 = b2) (hz : Sz x) :
    Calls Tryd.prog 12 #[.agg (gC x A c B d)] w fun e w' => e = .returned (.bool (b1 && b2)) ∧ Below w.heap.size w w' := by
  have HR := Lib.hid hr
  have K1 := Lib.hid h1
  have K2 := Lib.hid h2
  have K3 := Lib.hid h3
  have HZ := Lib.hid hz
  clear hr h1 h2 h3 hz
  go_enter Tryd.func12, Tryd.ntmps12
  go_upto_region 1 with (first | ((with_reducible refine gate_dst (N := 1) rfl ?_); refine box_event ?hg (N := 1) ?hd (cs := gC x A c B d) (t := 25) ?hr ?_; (case hd => rfl); (case hg => rfl); (case hr => first | (go_simp; done) | (go_simp; rfl)); intro gX hgX wX hxX hbX; have BX := Lib.hid hbX; have XX := Lib.hid hxX; clear hgX hxX hbX))
  have QS := Lib.hid (Q.of XX.out (Below.refl _ _))
  have a2 := QS.out.2.2.1
  cases b1 with
  | false =>
    go_quiet ((go_at_call 37; exact quiet_D (chancelref01_Right.calls k1 x.f2 false _ K1.out)))
    go_wp2
    go_ret
    refine ⟨rfl, below_step BX.out ?_⟩
    repeat (first | exact Below.refl _ _ | apply pw_below_drewN | apply Below.drew)
  | true =>
    have K22 := Lib.hid (K2.out rfl)
    clear K2
    go_region_held3 (fun w' => Q wX gX x A c B d w')
      (first | (with_reducible assumption) | (with_reducible exact HS1.out) | (with_reducible exact HS2.out) | (with_reducible exact HS3.out) | (with_reducible exact HS4.out) | exact QS.out.next (by (with_reducible repeat (first | exact Below.refl _ _ | apply pw_below_drewN | apply Below.drew | apply below_alloc))))
      (first
        | (go_at_call 37; (refine (chancelref01_Right.calls k1 x.f2 true _ K1.out).mono ?_); rintro e w5 ⟨rfl, hb5⟩; have HS1 := Lib.hid (Q.next (w0 := wX) (g := gX) (x := x) (A := A) (c := c) (B := B) (d := d) (by assumption) (below_drawn hb5)); clear hb5)
        | (go_at_call 39; (refine (marks5_calls x A c B d _).mono ?_); rintro e w6 ⟨rfl, hb6⟩; have HS2 := Lib.hid (Q.next (w0 := wX) (g := gX) (x := x) (A := A) (c := c) (B := B) (d := d) (by assumption) hb6); clear hb6)
        | (go_at_call 40; go_must (refine (chancelref01_Count.calls k2 x.f2 n _ K22.out).mono ?_); rintro e w7 ⟨rfl, hb7⟩; have HS3 := Lib.hid (Q.next (w0 := wX) (g := gX) (x := x) (A := A) (c := c) (B := B) (d := d) (by assumption) hb7); clear hb7)
        | (go_at_call 38; (refine (right4_calls A c x.f3 B d x.f4 n _ ?r3 ?r4 HZ.out.s3 HZ.out.s4).mono ?_); (case r3 => exact Kd.C_below HR.out.r3 (below_step BX.out (Q.b (w0 := wX) (g := gX) (x := x) (A := A) (c := c) (B := B) (d := d) (by assumption)))); (case r4 => exact Kd.C_below HR.out.r4 (below_step BX.out (Q.b (w0 := wX) (g := gX) (x := x) (A := A) (c := c) (B := B) (d := d) (by assumption)))); rw [K3.out]; rintro e w8 ⟨rfl, hb8⟩; have HS4 := Lib.hid (Q.next (w0 := wX) (g := gX) (x := x) (A := A) (c := c) (B := B) (d := d) (by assumption) hb8); clear hb8))
    all_goals
      go_wp2
      go_ret
      exact ⟨rfl, below_step BX.out HS4.out.b⟩
theorem right5_hand (x : G) (A : Option Addr) (c : Nat) (B : Option Addr) (d : Nat) (w : World) (hr : GR w x A c B d) (h : Sz x) :
    Calls Tryd.prog 12 #[.agg (gC x A c B d)] w fun e w' => e = .returned (.bool (okB x)) ∧ Below w.heap.size w w' := by
  obtain ⟨k1, h1⟩ := Go.Proofs.YtjphmebhofkhcaaDoorW.PrintWords.Ev.rounds (Right_ev x.f2 (by have := h.s2; omega))
  by_cases hv : Lib.validD x.f2.data.toList = true
  · obtain ⟨k2, h2⟩ := Go.Proofs.YtjphmebhofkhcaaDoorW.PrintWords.Ev.rounds (cnt_ev hv h.s2)
    exact right5_hw x A c B d k1 k2 _ _ _ w hr h1 (fun _ => h2) rfl h
  · exact right5_hw x A c B d k1 0 _ _ _ w hr h1 (fun e => absurd e hv) rfl h
end Go.Proofs.YtjphmebhofkhcaaDoor.Seg
/- Segments: letters of a text, places, small walks. Conditions: texts of at most 2^40 bytes. -/
namespace Go.Proofs.YtjphmebhofkhcaaDoor.Seg
open Go.RowKit Go.Proofs.YtjphmebhofkhcaaDoorPl Go.Proofs.YtjphmebhofkhcaaDoorW.PrintWords Go.Proofs.YtjphmebhofkhcaaDoorW.PrintLast Go.Proofs.YtjphmebhofkhcaaDoorW.PrintMore Go.Proofs.YtjphmebhofkhcaaDoor.Rope Go.Proofs.YtjphmebhofkhcaaDoor.PSegAll Go.Proofs.YtjphmebhofkhcaaDoor.Pure
set_option linter.unusedVariables false
set_option linter.unusedSimpArgs false
attribute [local go_sem] max2_int min2_int max_two min_two
theorem letts_uniq : ∀ {cs ds : List (List UInt8)}, Letts cs → Letts ds → cs.flatten = ds.flatten → cs = ds
  | [], [], _, _, _ => rfl
  | [], d :: r, _, hd, h => by
    have h1 := (hd d (by simp)).pos
    have h2 := congrArg List.length h
    rw [List.flatten_cons, List.length_append] at h2
    simp only [List.flatten_nil, List.length_nil] at h2
    omega
  | c :: r, [], hc, _, h => by
    have h1 := (hc c (by simp)).pos
    have h2 := congrArg List.length h
    rw [List.flatten_cons, List.length_append] at h2
    simp only [List.flatten_nil, List.length_nil] at h2
    omega
  | c :: r, d :: q, hc, hd, h => by
    have e1 := lett_append (hc c (by simp)) r.flatten
    have e2 := lett_append (hd d (by simp)) q.flatten
    rw [List.flatten_cons, List.flatten_cons] at h
    rw [h, e2] at e1
    have el : c.length = d.length := by rw [← (hc c (by simp)).1, ← (hd d (by simp)).1, e1]
    have ec : c = d := by
      have := congrArg (List.take c.length) h
      rw [List.take_left, el, List.take_left] at this
      exact this
    subst ec
    have er := List.append_cancel_left h
    rw [letts_uniq (fun x hx => hc x (by simp [hx])) (fun x hx => hd x (by simp [hx])) er]
/-- The letters of a right text. -/
noncomputable def lets (s : ByteArray) : List (List UInt8) := open Classical in if h : ∃ cs, Letts cs ∧ s.data.toList = cs.flatten then Classical.choose h else []
theorem lets_eq {s : ByteArray} {cs : List (List UInt8)} (hl : Letts cs) (h : s.data.toList = cs.flatten) : lets s = cs := by
  have hx : ∃ cs, Letts cs ∧ s.data.toList = cs.flatten := ⟨cs, hl, h⟩
  unfold lets
  rw [dif_pos hx]
  have h2 := Classical.choose_spec hx
  exact letts_uniq h2.1 hl (h2.2.symm.trans h)
theorem lets_ok {s : ByteArray} (hv : Lib.validD s.data.toList = true) : Letts (lets s) ∧ s.data.toList = (lets s).flatten := by
  obtain ⟨cs, hl, h⟩ := (validD_iff _).1 hv
  rw [lets_eq hl h]
  exact ⟨hl, h⟩
theorem cnt_lets {s : ByteArray} (hv : Lib.validD s.data.toList = true) (hs : s.size ≤ 1099511627776) : cnt s = ((lets s).length : Int) := cnt_eq (lets_ok hv).1 (lets_ok hv).2 hs
theorem lets_le {s : ByteArray} (hv : Lib.validD s.data.toList = true) : (lets s).length ≤ s.size := by
  have k := letts_le _ (lets_ok hv).1
  rw [← (lets_ok hv).2, toList_size] at k
  exact k
/-- A text of letters. -/
def ofL (cs : List (List UInt8)) : ByteArray := ⟨cs.flatten.toArray⟩
theorem ofL_data (cs : List (List UInt8)) : (ofL cs).data.toList = cs.flatten := by unfold ofL; simp
theorem ofL_eq {s : ByteArray} {cs : List (List UInt8)} (h : s.data.toList = cs.flatten) : s = ofL cs := by
  apply ByteArray.ext
  apply Array.ext'
  rw [h, ofL_data]
theorem ofL_lets {s : ByteArray} (hv : Lib.validD s.data.toList = true) : ofL (lets s) = s := (ofL_eq (lets_ok hv).2).symm
theorem ofL_size (cs : List (List UInt8)) : (ofL cs).size = cs.flatten.length := by rw [← ofL_data, toList_size]
noncomputable def putT (s : ByteArray) (a : Int) (t : ByteArray) : ByteArray := ofL ((lets s).take a.toNat ++ lets t ++ (lets s).drop a.toNat)
noncomputable def cutT (s : ByteArray) (a b : Int) : ByteArray := ofL (((lets s).take b.toNat).drop a.toNat)
/-- A place within a text. -/
def clampI (c a : Int) : Int := if c < (if a < 0 then 0 else a) then c else (if a < 0 then 0 else a)
theorem clamp_in {c a : Int} (h : 0 ≤ c) : 0 ≤ clampI c a ∧ clampI c a ≤ c := by unfold clampI; (repeat' split) <;> omega
theorem cnt_in {s : ByteArray} (hv : Lib.validD s.data.toList = true) (hs : s.size ≤ 1099511627776) : 0 ≤ cnt s ∧ cnt s ≤ s.size := by
  rw [cnt_lets hv hs]
  have := lets_le hv
  omega
set_option maxRecDepth 100000 in
set_option maxHeartbeats 800000 in
theorem clampG_calls (x : G) (p A : Option Addr) (c : Nat) (B : Option Addr) (d : Nat) (a : Int) (w : World) (hr : Rp w p x.f2) (hz : x.f2.size ≤ 1099511627776) :
    Calls Tryd.prog 42 #[.agg (sgC x p A c B d), .int .i64 a] w fun e w' => e = .returned (.int .i64 (clampI (cnt x.f2) a)) ∧ Below w.heap.size w w' := by
  obtain ⟨m, e1⟩ : ∃ z, (if a < 0 then (0 : Int) else a) = z := ⟨_, rfl⟩
  obtain ⟨n, hn⟩ : ∃ n, n = cnt x.f2 := ⟨_, rfl⟩
  obtain ⟨r, e2⟩ : ∃ z, (if n < m then n else m) = z := ⟨_, rfl⟩
  have er : clampI (cnt x.f2) a = r := by unfold clampI; rw [e1, ← hn]; exact e2
  rw [er]
  have HN := Lib.hid hn
  have HR := Lib.hid hr
  clear hr hn er
  go_enter Tryd.func42, Tryd.ntmps42
  go_wp2_with fail
  (go_at_call 36; refine (len_rp (HR.out.below (below_alloc (Below.refl _ _) _)) hz).mono ?_; rw [← HN.out]; rintro e w1 ⟨rfl, rfl⟩)
  go_wp2
  go_ret
  exact ⟨rfl, below_alloc (Below.refl _ _) _⟩
set_option maxRecDepth 100000 in
set_option maxHeartbeats 800000 in
theorem ropeG_calls (x : G) (p A : Option Addr) (c : Nat) (B : Option Addr) (d : Nat) (w : World) :
    Calls Tryd.prog 15 #[.agg (sgC x p A c B d)] w fun e w' => e = .returned (.pointer p) ∧ Below w.heap.size w w' := by
  go_enter Tryd.func15, Tryd.ntmps15
  go_wp2
  go_ret
  exact ⟨rfl, below_alloc (Below.refl _ _) _⟩
set_option maxRecDepth 100000 in
set_option maxHeartbeats 800000 in
theorem labelG_calls (x : G) (p A : Option Addr) (c : Nat) (B : Option Addr) (d : Nat) (w : World) :
    Calls Tryd.prog 23 #[.agg (sgC x p A c B d)] w fun e w' => e = .returned (.int .i64 x.f1) ∧ Below w.heap.size w w' := by
  go_enter Tryd.func23, Tryd.ntmps23
  go_wp2
  go_ret
  refine ⟨rfl, ?_⟩
  repeat (first | exact Below.refl _ _ | apply below_alloc | (refine below_set ?_ (by simp; try omega)))
set_option maxRecDepth 100000 in
set_option maxHeartbeats 800000 in
theorem of5_calls (s : ByteArray) (w : World) (hs : s.size ≤ 1099511627776) (hT : Tabs w) (hv : Lib.validD s.data.toList = true) :
    Calls Tryd.prog 14 #[.string s] w fun e w' => ∃ p, e = .returned (.pointer p) ∧ Rp w' p s ∧ Below w.heap.size w w' := by
  have HT := Lib.hid hT
  have HV := Lib.hid hv
  clear hT hv
  go_enter Tryd.func14, Tryd.ntmps14
  go_wp2_with fail
  (go_at_call 32; refine (new_rpS s _ hs HT.out HV.out).mono ?_; rintro e w1 ⟨p, rfl, hi, hb⟩)
  go_wp2
  go_ret
  exact ⟨p, rfl, hi, hb⟩
def nG (a b : Int) : G := ⟨a, b, ⟨#[]⟩, [], []⟩
theorem nG_sp (a b : Int) (w : World) : SP w (nG a b) none none 0 none 0 := ⟨⟨⟨Nat.le_refl _, Nat.le_refl _, Kd.C_nil _ _, Kd.C_nil _ _⟩, fun _ e => (by cases e), fun _ e => (by cases e)⟩, rp_none w⟩
set_option maxRecDepth 100000 in
set_option maxHeartbeats 800000 in
theorem segNew_calls (a b : Int) (w : World) : Calls Tryd.prog 31 #[.int .i64 a, .int .i64 b] w fun e w' => e = .returned (.agg (sgC (nG a b) none none 0 none 0)) ∧ Below w.heap.size w w' := by
  go_enter Tryd.func31, Tryd.ntmps31
  go_wp2
  refine bodyPost_ret (results_cell_row rfl _ _ w.heap.size 31 #[.int .i64 a, .int .i64 b, .pointer none, .slice none 0 0, .slice none 0 0] (0, 0) _ rfl (blk_newS rfl) Tryd.underlying31 rfl (by kernel_rfl)) rfl ?_
  exact ⟨rfl, below_alloc (Below.refl _ _) _⟩
end Go.Proofs.YtjphmebhofkhcaaDoor.Seg
/- Segments: the walk of Insert. Conditions: texts of at most 2^30 bytes in all. -/
namespace Go.Proofs.YtjphmebhofkhcaaDoor.Seg
open Go.RowKit Go.Proofs.YtjphmebhofkhcaaDoorPl Go.Proofs.YtjphmebhofkhcaaDoorW.PrintWords Go.Proofs.YtjphmebhofkhcaaDoorW.PrintLast Go.Proofs.YtjphmebhofkhcaaDoorW.PrintMore Go.Proofs.YtjphmebhofkhcaaDoor.Rope Go.Proofs.YtjphmebhofkhcaaDoor.PSegAll Go.Proofs.YtjphmebhofkhcaaDoor.Pure
set_option linter.unusedVariables false
set_option linter.unusedSimpArgs false
theorem bytes_rp {w : World} {p : Option Addr} {s : ByteArray} (h : Rp w p s) : Calls Tryd.prog 41 #[.pointer p] w fun e w' => e = .returned (.int .i64 (s.size : Int)) ∧ w = w' := by
  obtain ⟨t, cs, hi, hs⟩ := h
  have e : bytesO t = s.size := by rw [hi.bytes, ← hs, toList_size]
  rw [← e]
  exact bytes_calls t _ w hi.r
theorem put_rp {w : World} {p q : Option Addr} {s t : ByteArray} (a : Int) (h : Rp w p s) (k : Rp w q t) (hz : s.size + t.size ≤ 1099511627776) :
    Calls Tryd.prog 44 #[.pointer p, .int .i64 a, .pointer q] w fun e w' => ∃ r, e = .returned (.pointer r) ∧ Rp w' r (putT s a t) ∧ Below w.heap.size w w' := by
  obtain ⟨t1, cs, hi, hs⟩ := h
  obtain ⟨t2, ds, ki, ks⟩ := k
  have e1 : bytesO t1 = s.size := by rw [hi.bytes, ← hs, toList_size]
  have e2 : bytesO t2 = t.size := by rw [ki.bytes, ← ks, toList_size]
  refine (put_is a hi ki (by omega)).mono ?_
  rintro e w' ⟨v, rfl, hv, hb⟩
  obtain ⟨r, rfl, hr⟩ := hv.rp (s := putT s a t) (by unfold putT; rw [ofL_data, lets_eq hi.g.letts hs, lets_eq ki.g.letts ks])
  exact ⟨r, rfl, hr, hb⟩
/-- A segment behind a text that is put. -/
noncomputable def insG (x : G) (a : Int) (t : ByteArray) (m : Int) : G := ⟨x.f0, x.f1, putT x.f2 (clampI (cnt x.f2) a) t, putL (clampI (cnt x.f2) a) (cnt t) m x.f3, normY (x.f4.map (Mk.mvY (Mk.toP (clampI (cnt x.f2) a) (cnt t))))⟩
/-- What a walk over a segment of its own keeps. -/
structure IZ (w : World) (g5 g10 : Nat) (y : G) (p A : Option Addr) (c : Nat) (B : Option Addr) (d : Nat) (W : World) : Prop where
  b : Below w.heap.size w W
  lo5 : w.heap.size ≤ g5
  lo10 : w.heap.size ≤ g10
  ne : g5 ≠ g10
  h5 : W.heap[g5]? = some (.cells (sgC y p A c B d) 31 (0, 0))
  h10 : W.heap[g10]? = some (.cells zC 31 (0, 0))
  sp : SP W y p A c B d
theorem IZ.next {w W W' : World} {g5 g10 : Nat} {y : G} {p A : Option Addr} {c : Nat} {B : Option Addr} {d : Nat} (h : IZ w g5 g10 y p A c B d W) (hb : Below W.heap.size W W') : IZ w g5 g10 y p A c B d W' := ⟨below_step h.b hb, h.lo5, h.lo10, h.ne, blk_below h.h5 hb, blk_below h.h10 hb, h.sp.below hb⟩
/-- New marks are laid. -/
theorem IZ.marks {w W W' : World} {g5 g10 : Nat} {y : G} {p A : Option Addr} {c : Nat} {B : Option Addr} {d : Nat} (h : IZ w g5 g10 y p A c B d W) (hb : Below W.heap.size W W') {A' : Option Addr} {c' : Nat} {B' : Option Addr} {d' : Nat} {xs : List S67} {ys : List S70} {base : Nat} {ok ok' : Nat → Prop}
    (r3 : Kd.R kS 67 W' base ok (.slice A' xs.length c') xs) (r4 : Kd.R kY 70 W' base ok' (.slice B' ys.length d') ys) :
    IZ w g5 g10 ⟨y.f0, y.f1, y.f2, xs, ys⟩ p A' c' B' d' ((W'.setCell ⟨g5, 3, none⟩ (.slice A' xs.length c')).setCell ⟨g5, 4, none⟩ (.slice B' ys.length d')) := by
  have k := h.next hb
  have s1 : SP W' ⟨y.f0, y.f1, y.f2, xs, ys⟩ p A' c' B' d' := ⟨TR.of (x := ⟨y.f0, y.f1, y.f2, xs, ys⟩) r3 r4, k.sp.rp⟩
  have s2 := sp_set (sp_set ⟨s1, k.h5⟩ 3 (.slice A' xs.length c')) 4 (.slice B' ys.length d')
  refine ⟨below_set (below_set k.b h.lo5) h.lo5, h.lo5, h.lo10, h.ne, by simpa using s2.2, ?_, s2.1⟩
  exact (Below.heap_setCell _ ⟨g5, 4, none⟩ _ g10 h.ne.symm).trans ((Below.heap_setCell _ ⟨g5, 3, none⟩ _ g10 h.ne.symm).trans k.h10)
/-- A new text is laid. -/
theorem IZ.text {w W W' : World} {g5 g10 : Nat} {y : G} {p A : Option Addr} {c : Nat} {B : Option Addr} {d : Nat} (h : IZ w g5 g10 y p A c B d W) (hb : Below W.heap.size W W') {r : Option Addr} {s : ByteArray} (hr : Rp W' r s) :
    IZ w g5 g10 ⟨y.f0, y.f1, s, y.f3, y.f4⟩ r A c B d (W'.setCell ⟨g5, 2, none⟩ (.pointer r)) := by
  have k := h.next hb
  have s1 : SP W' ⟨y.f0, y.f1, s, y.f3, y.f4⟩ r A c B d := ⟨⟨⟨k.sp.c3, k.sp.c4, k.sp.r3, k.sp.r4⟩, k.sp.t3, k.sp.t4⟩, hr⟩
  have s2 := sp_set ⟨s1, k.h5⟩ 2 (.pointer r)
  refine ⟨below_set k.b h.lo5, h.lo5, h.lo10, h.ne, by simpa using s2.2, ?_, s2.1⟩
  exact (Below.heap_setCell _ ⟨g5, 2, none⟩ _ g10 h.ne.symm).trans k.h10
/-- The answer's segment is laid. -/
theorem IZ.out5 {w W : World} {g5 g10 : Nat} {y : G} {p A : Option Addr} {c : Nat} {B : Option Addr} {d : Nat} (h : IZ w g5 g10 y p A c B d W) :
    (SP (((((W.setCell ⟨g10, 0, none⟩ (.int .i64 y.f0)).setCell ⟨g10, 1, none⟩ (.int .i64 y.f1)).setCell ⟨g10, 2, none⟩ (.pointer p)).setCell ⟨g10, 3, none⟩ (.slice A y.f3.length c)).setCell ⟨g10, 4, none⟩ (.slice B y.f4.length d)) y p A c B d ∧ (((((W.setCell ⟨g10, 0, none⟩ (.int .i64 y.f0)).setCell ⟨g10, 1, none⟩ (.int .i64 y.f1)).setCell ⟨g10, 2, none⟩ (.pointer p)).setCell ⟨g10, 3, none⟩ (.slice A y.f3.length c)).setCell ⟨g10, 4, none⟩ (.slice B y.f4.length d)).heap[g10]? = some (.cells (sgC y p A c B d) 31 (0, 0))) ∧ Below w.heap.size w (((((W.setCell ⟨g10, 0, none⟩ (.int .i64 y.f0)).setCell ⟨g10, 1, none⟩ (.int .i64 y.f1)).setCell ⟨g10, 2, none⟩ (.pointer p)).setCell ⟨g10, 3, none⟩ (.slice A y.f3.length c)).setCell ⟨g10, 4, none⟩ (.slice B y.f4.length d)) := by
  have s := sp_set (sp_set (sp_set (sp_set (sp_set ⟨h.sp, h.h10⟩ 0 (.int .i64 y.f0)) 1 (.int .i64 y.f1)) 2 (.pointer p)) 3 (.slice A y.f3.length c)) 4 (.slice B y.f4.length d)
  exact ⟨⟨s.1, by simpa using s.2⟩, below_set (below_set (below_set (below_set (below_set h.b h.lo10) h.lo10) h.lo10) h.lo10) h.lo10⟩
/-- What may be asked of Insert. -/
structure InsOk (x : G) (t : ByteArray) : Prop where
  z : Sz x
  v : okB x = true
  b1 : x.f2.size ≤ 1073741824
  b2 : t.size ≤ 1073741824
  vt : Lib.validD t.data.toList = true
theorem InsOk.each {x : G} {t : ByteArray} (h : InsOk x t) : ∀ s ∈ x.f3, 0 < s.f0 ∧ 0 ≤ s.f1 ∧ s.f1 < s.f2 ∧ s.f2 ≤ cnt x.f2 := ok_each (Mk.right_iff.1 (okB_true h.v).2).1
theorem InsOk.cnt {x : G} {t : ByteArray} (h : InsOk x t) : (0 ≤ Seg.cnt x.f2 ∧ Seg.cnt x.f2 ≤ 1073741824) ∧ 0 ≤ Seg.cnt t ∧ Seg.cnt t ≤ 1073741824 := by
  have h1 := cnt_in (okB_true h.v).1 h.z.s2
  have h2 := cnt_in h.vt (by have := h.b2; omega)
  have := h.b1
  have := h.b2
  omega
set_option maxRecDepth 1000000 in
set_option maxHeartbeats 4000000 in
theorem segIns_calls (x : G) (p A : Option Addr) (c : Nat) (B : Option Addr) (d : Nat) (q : Option Addr) (t : ByteArray) (a m quota : Int) (w : World) (hs : SP w x p A c B d) (hq : Rp w q t) (ho : InsOk x t) :
    Calls Tryd.prog 13 #[.agg (sgC x p A c B d), .int .i64 a, .pointer q, .int .i64 m, .int .i64 quota] w fun e w' => if quota < (x.f2.size : Int) + (t.size : Int) then e = .returned (.tuple #[.agg (sgC x p A c B d), .bool false]) ∧ Below w.heap.size w w' else RetSeg (insG x a t m) w e w' := by
  have HS := Lib.hid hs
  have HQ := Lib.hid hq
  have HO := Lib.hid ho
  have ws := IntWalk.i64_in ((x.f2.size : Int) + (t.size : Int)) (by have := ho.b1; have := ho.b2; omega)
  clear hs hq ho
  by_cases hg : quota < (x.f2.size : Int) + (t.size : Int)
  · simp only [if_pos hg]
    go_enter Tryd.func13, Tryd.ntmps13
    go_upto_region 1 with fail
    refine gen2 (φ := fun W => Code.wp _ _ _ _ W) (P := fun W => IZ w w.heap.size (w.heap.size + 1) x p A c B d W) ⟨below_alloc (below_alloc (Below.refl _ _) _) _, Nat.le_refl _, by omega, by omega, blk_alloc (blk_new w _) _, blk_newS (by simp), HS.out.below (below_alloc (below_alloc (Below.refl _ _) _) _)⟩ ?_
    intro V0 hV0
    have Z0 := Lib.hid hV0
    have x2 := (blk_cell hV0.h5 2).trans rfl
    clear hV0
    have dg : decide (quota < (x.f2.size : Int) + (t.size : Int)) = true := by simpa using hg
    have x0 := (blk_cell Z0.out.h5 0).trans rfl
    have x1 := (blk_cell Z0.out.h5 1).trans rfl
    have x3 := (blk_cell Z0.out.h5 3).trans rfl
    have x4 := (blk_cell Z0.out.h5 4).trans rfl
    have r0 := (blk_cell Z0.out.h10 0).trans rfl
    have z0 := blk_frozen Z0.out.h10 0
    have r1 := (blk_cell Z0.out.h10 1).trans rfl
    have z1 := blk_frozen Z0.out.h10 1
    have r2 := (blk_cell Z0.out.h10 2).trans rfl
    have z2 := blk_frozen Z0.out.h10 2
    have r3 := (blk_cell Z0.out.h10 3).trans rfl
    have z3 := blk_frozen Z0.out.h10 3
    have r4 := (blk_cell Z0.out.h10 4).trans rfl
    have z4 := blk_frozen Z0.out.h10 4
    go_wp2_with fail
    (go_at_call 41; refine (bytes_rp Z0.out.sp.rp).mono ?_; rintro e w1 ⟨rfl, rfl⟩)
    go_wp2_with fail
    (go_at_call 41; refine (bytes_rp (HQ.out.below Z0.out.b)).mono ?_; rintro e w1 ⟨rfl, rfl⟩)
    go_wp2
    refine bodyPost_ret (results_ct rfl _ _ (w.heap.size + 1) 31 (sgC x p A c B d) (0, 0) _ rfl (by simpa using Z0.out.out5.1.2) Tryd.underlying31 rfl (by kernel_rfl)) rfl ?_
    exact ⟨rfl, Z0.out.out5.2⟩
  · simp only [if_neg hg]
    go_enter Tryd.func13, Tryd.ntmps13
    go_upto_region 1 with fail
    refine gen2 (φ := fun W => Code.wp _ _ _ _ W) (P := fun W => IZ w w.heap.size (w.heap.size + 1) x p A c B d W) ⟨below_alloc (below_alloc (Below.refl _ _) _) _, Nat.le_refl _, by omega, by omega, blk_alloc (blk_new w _) _, blk_newS (by simp), HS.out.below (below_alloc (below_alloc (Below.refl _ _) _) _)⟩ ?_
    intro V0 hV0
    have Z0 := Lib.hid hV0
    have x2 := (blk_cell hV0.h5 2).trans rfl
    clear hV0
    have dg : decide (quota < (x.f2.size : Int) + (t.size : Int)) = false := by simpa using hg
    go_wp2_with fail
    (go_at_call 41; refine (bytes_rp Z0.out.sp.rp).mono ?_; rintro e w1 ⟨rfl, rfl⟩)
    go_wp2_with fail
    (go_at_call 41; refine (bytes_rp (HQ.out.below Z0.out.b)).mono ?_; rintro e w1 ⟨rfl, rfl⟩)
    have x0 := (blk_cell Z0.out.h5 0).trans rfl
    have x1 := (blk_cell Z0.out.h5 1).trans rfl
    have x3 := (blk_cell Z0.out.h5 3).trans rfl
    have x4 := (blk_cell Z0.out.h5 4).trans rfl
    obtain ⟨a1, ha1⟩ : ∃ z, z = clampI (cnt x.f2) a := ⟨_, rfl⟩
    have HA := Lib.hid ha1
    have HC := Lib.hid (clamp_in (a := a) HO.out.cnt.1.1)
    rw [← ha1] at HC
    clear ha1
    go_upto_region 4 with (go_at_call 42; refine (clampG_calls x p A c B d a _ Z0.out.sp.rp HO.out.z.s2).mono ?_; rw [← HA.out]; rintro e w1 ⟨rfl, hb1⟩; have Z1 := Lib.hid (Z0.out.next hb1); clear hb1)
    clear x0 x1 x2 x3 x4
    obtain ⟨k, hk⟩ : ∃ k, k = cnt t := ⟨_, rfl⟩
    have HK := Lib.hid hk
    obtain ⟨pl, hpl⟩ : ∃ l, l = putL a1 k m x.f3 := ⟨_, rfl⟩
    obtain ⟨nz, hnz⟩ : ∃ l, l = normY (x.f4.map (Mk.mvY (Mk.toP a1 k))) := ⟨_, rfl⟩
    have HPL := Lib.hid hpl
    have HNZ := Lib.hid hnz
    have x3 := (blk_cell Z1.out.h5 3).trans rfl
    have x4 := (blk_cell Z1.out.h5 4).trans rfl
    clear hk hpl hnz Z0
    refine wp_region_noPanic ?_
    refine wp_region_to (S := fun w' : World => w'.cell? ⟨w.heap.size, 3, none⟩ = some (.slice A x.f3.length c) ∧ w'.cell? ⟨w.heap.size, 4, none⟩ = some (.slice B x.f4.length d)) 8 ?hm_g ?_
    case hm_g => kernel_rfl
    have hHeld_g : (fun w' : World => w'.cell? ⟨w.heap.size, 3, none⟩ = some (.slice A x.f3.length c) ∧ w'.cell? ⟨w.heap.size, 4, none⟩ = some (.slice B x.f4.length d)) _ := ⟨pw_cell_below (w := w1) (by with_reducible repeat (first | exact Below.refl _ _ | apply pw_below_drewN | apply Below.drew)) x3, pw_cell_below (w := w1) (by with_reducible repeat (first | exact Below.refl _ _ | apply pw_below_drewN | apply Below.drew)) x4⟩
    refine HeldTo.take (i := 0) (oi := ?og0) (v := ?vg0) ?hi_g0 ?k1_g0 ?kz_g0 (fun _ _ _ h => h) ?k2_g0 ?k3_g0 (Or.inl ⟨?g_g0, ?y_g0⟩) hHeld_g ?r_g0
    case hi_g0 => (simp only [List.getElem?_toArray, List.getElem?_cons_succ, List.getElem?_cons_zero]; rfl)
    case k1_g0 => kernel_rfl
    case kz_g0 => kernel_rfl
    case k2_g0 => kernel_rfl
    case k3_g0 => kernel_rfl
    case g_g0 => rfl
    case y_g0 => (intro w hSw; (try dsimp only at hSw); first | (go_simp; done) | (go_simp; with_reducible rfl))
    (try simp only [Act.put, List.setIfInBounds_toArray, List.set_cons_zero, List.set_cons_succ])
    refine HeldTo.take (i := 1) (oi := ?og1) (v := ?vg1) ?hi_g1 ?k1_g1 ?kz_g1 (fun _ _ _ h => h) ?k2_g1 ?k3_g1 (Or.inl ⟨?g_g1, ?y_g1⟩) hHeld_g ?r_g1
    case hi_g1 => (simp only [List.getElem?_toArray, List.getElem?_cons_succ, List.getElem?_cons_zero]; rfl)
    case k1_g1 => kernel_rfl
    case kz_g1 => kernel_rfl
    case k2_g1 => kernel_rfl
    case k3_g1 => kernel_rfl
    case g_g1 => rfl
    case y_g1 => (intro w hSw; (try dsimp only at hSw); first | (go_simp; done) | (go_simp; with_reducible rfl))
    (try simp only [Act.put, List.setIfInBounds_toArray, List.set_cons_zero, List.set_cons_succ])
    refine HeldTo.take (i := 2) (oi := ?og2) (v := ?vg2) ?hi_g2 ?k1_g2 ?kz_g2 (fun _ _ _ h => h) ?k2_g2 ?k3_g2 (Or.inl ⟨?g_g2, ?y_g2⟩) hHeld_g ?r_g2
    case hi_g2 => (simp only [List.getElem?_toArray, List.getElem?_cons_succ, List.getElem?_cons_zero]; rfl)
    case k1_g2 => kernel_rfl
    case kz_g2 => kernel_rfl
    case k2_g2 => kernel_rfl
    case k3_g2 => kernel_rfl
    case g_g2 => rfl
    case y_g2 => (intro w hSw; (try dsimp only at hSw); first | (go_simp; done) | (go_simp; with_reducible rfl))
    (try simp only [Act.put, List.setIfInBounds_toArray, List.set_cons_zero, List.set_cons_succ])
    refine HeldTo.take (i := 3) (oi := ?og3) (v := ?vg3) ?hi_g3 ?k1_g3 ?kz_g3 (fun _ _ _ h => h) ?k2_g3 ?k3_g3 (Or.inl ⟨?g_g3, ?y_g3⟩) hHeld_g ?r_g3
    case hi_g3 => (simp only [List.getElem?_toArray, List.getElem?_cons_succ, List.getElem?_cons_zero]; rfl)
    case k1_g3 => kernel_rfl
    case kz_g3 => kernel_rfl
    case k2_g3 => kernel_rfl
    case k3_g3 => kernel_rfl
    case g_g3 => rfl
    case y_g3 => (intro w hSw; (try dsimp only at hSw); first | (go_simp; done) | (go_simp; with_reducible rfl))
    (try simp only [Act.put, List.setIfInBounds_toArray, List.set_cons_zero, List.set_cons_succ])
    refine HeldTo.take (i := 5) (oi := ?og5) (v := ?vg5) ?hi_g5 ?k1_g5 ?kz_g5 (fun _ _ _ h => h) ?k2_g5 ?k3_g5 (Or.inl ⟨?g_g5, ?y_g5⟩) hHeld_g ?r_g5
    case hi_g5 => (simp only [List.getElem?_toArray, List.getElem?_cons_succ, List.getElem?_cons_zero]; rfl)
    case k1_g5 => kernel_rfl
    case kz_g5 => kernel_rfl
    case k2_g5 => kernel_rfl
    case k3_g5 => kernel_rfl
    case g_g5 => rfl
    case y_g5 => (intro w hSw; (try dsimp only at hSw); first | (go_simp; done) | (go_simp; with_reducible rfl))
    (try simp only [Act.put, List.setIfInBounds_toArray, List.set_cons_zero, List.set_cons_succ])
    refine HeldTo.one (i := 4) (o := ?og4) ?k1_g4 ?hi_g4 (fun K hK => ?s_g4)
    case k1_g4 => kernel_rfl
    case hi_g4 => (simp only [List.getElem?_toArray, List.getElem?_cons_succ, List.getElem?_cons_zero]; rfl)
    go_simp
    (go_at_call 36; refine (len_rpb (p := q) (s := t) (HQ.out.below (below_step Z1.out.b (show Below w1.heap.size w1 _ from (by with_reducible repeat (first | exact Below.refl _ _ | apply pw_below_drewN | apply Below.drew))))) (by have := HO.out.b2; omega)).mono ?_; rw [← HK.out]; rintro e w3 ⟨rfl, hb3⟩)
    have B3 := Lib.hid (below_step (show Below w1.heap.size w1 _ from (by with_reducible repeat (first | exact Below.refl _ _ | apply pw_below_drewN | apply Below.drew))) hb3)
    clear hb3
    (try go_wp2_with fail)
    refine hK.out _ _ (Or.inr ⟨pw_cell_below (w := w1) B3.out x3, pw_cell_below (w := w1) B3.out x4⟩) ?_
    clear hK K
    (try simp only [Act.put, List.setIfInBounds_toArray, List.set_cons_zero, List.set_cons_succ])
    refine HeldTo.one (i := 6) (o := ?og6) ?k1_g6 ?hi_g6 (fun K hK => ?s_g6)
    case k1_g6 => kernel_rfl
    case hi_g6 => (simp only [List.getElem?_toArray, List.getElem?_cons_succ, List.getElem?_cons_zero]; rfl)
    go_simp
    (go_at_call 43; refine (Mk.put_calls A c x.f3 B d x.f4 a1 k m _ (Kd.C_below Z1.out.sp.r3 B3.out) Z1.out.sp.c3 (Kd.C_below Z1.out.sp.r4 B3.out) Z1.out.sp.c4 HO.out.z.s3 HO.out.z.s4 (by have := HC.out; have := HO.out.cnt; omega) (by have := HO.out.cnt; rw [HK.out]; omega) (fun s hs => by have := HO.out.each s hs; have := HO.out.cnt; omega)).mono ?_; rw [← HPL.out, ← HNZ.out]; rintro e w4 ⟨A4, c4, B4, d4, e4, m4, n4, hb4⟩)
    subst e4
    have M4 := Lib.hid m4
    have N4 := Lib.hid n4
    have HB4 := Lib.hid hb4
    clear m4 n4 hb4
    (try go_wp2_with fail)
    refine hK.out _ _ (Or.inr ⟨pw_cell_below (w := w1) (below_step B3.out HB4.out) x3, pw_cell_below (w := w1) (below_step B3.out HB4.out) x4⟩) ?_
    clear hK K
    (try simp only [Act.put, List.setIfInBounds_toArray, List.set_cons_zero, List.set_cons_succ])
    refine HeldTo.take (i := 7) (oi := ?og7) (v := ?vg7) ?hi_g7 ?k1_g7 ?kz_g7 (fun _ _ _ h => h) ?k2_g7 ?k3_g7 (Or.inl ⟨?g_g7, ?y_g7⟩) ⟨pw_cell_below (w := w1) (below_step B3.out HB4.out) x3, pw_cell_below (w := w1) (below_step B3.out HB4.out) x4⟩ ?r_g7
    case hi_g7 => (simp only [List.getElem?_toArray, List.getElem?_cons_succ, List.getElem?_cons_zero]; rfl)
    case k1_g7 => kernel_rfl
    case kz_g7 => kernel_rfl
    case k2_g7 => kernel_rfl
    case k3_g7 => kernel_rfl
    case g_g7 => rfl
    case y_g7 => (intro w hSw; (try dsimp only at hSw); first | (go_simp; done) | (go_simp; with_reducible rfl))
    (try simp only [Act.put, List.setIfInBounds_toArray, List.set_cons_zero, List.set_cons_succ])
    refine HeldTo.one (i := 8) (o := ?og8) ?k1_g8 ?hi_g8 (fun K hK => ?s_g8)
    case k1_g8 => kernel_rfl
    case hi_g8 => (simp only [List.getElem?_toArray, List.getElem?_cons_succ, List.getElem?_cons_zero]; rfl)
    have t3 := (blk_cell (blk_below (blk_below Z1.out.h5 B3.out) HB4.out) 3).trans rfl
    have t4 := (blk_cell (blk_below (blk_below Z1.out.h5 B3.out) HB4.out) 4).trans rfl
    have z3 := blk_frozen (blk_below (blk_below Z1.out.h5 B3.out) HB4.out) 3
    have z4 := blk_frozen (blk_below (blk_below Z1.out.h5 B3.out) HB4.out) 4
    go_simp
    refine hK.out _ _ (Or.inl rfl) ?_
    clear hK K
    (try simp only [Act.put, List.setIfInBounds_toArray, List.set_cons_zero, List.set_cons_succ])
    refine HeldTo.done (by kernel_rfl) ?_ _
    refine NoPanic.normal ?_
    refine gen2 (φ := fun W => Exit.then _ _ Exit.normal _ W) (P := fun W => IZ w w.heap.size (w.heap.size + 1) ⟨x.f0, x.f1, x.f2, pl, nz⟩ p A4 c4 B4 d4 W) (Z1.out.marks (below_step B3.out HB4.out) M4.out N4.out) ?_
    intro V2 hV2
    have Z2 := Lib.hid hV2
    have x2 := (blk_cell hV2.h5 2).trans rfl
    clear hV2 t3 t4 z3 z4 x3 x4 Z1 M4 N4 B3 HB4 hHeld_g
    go_upto_region 6 with (go_at_call 44; refine (put_rp a1 (show Rp V2 p x.f2 from Z2.out.sp.rp) (HQ.out.below Z2.out.b) (by have := HO.out.b1; have := HO.out.b2; omega)).mono ?_; rintro e w5 ⟨r, rfl, hr5, hb5⟩; have R5 := Lib.hid hr5; have HB5 := Lib.hid hb5; have u2 := (blk_cell (blk_below Z2.out.h5 hb5) 2).trans rfl; have z2 := blk_frozen (blk_below Z2.out.h5 hb5) 2; clear hr5 hb5)
    refine gen2 (φ := fun W => Code.wp _ _ _ _ W) (P := fun W => IZ w w.heap.size (w.heap.size + 1) ⟨x.f0, x.f1, putT x.f2 a1 t, pl, nz⟩ r A4 c4 B4 d4 W) (Z2.out.text HB5.out R5.out) ?_
    intro V3 hV3
    have Z3 := Lib.hid hV3
    have x0 := (blk_cell hV3.h5 0).trans rfl
    have x1 := (blk_cell hV3.h5 1).trans rfl
    have x2' := (blk_cell hV3.h5 2).trans rfl
    have x3 := (blk_cell hV3.h5 3).trans rfl
    have x4 := (blk_cell hV3.h5 4).trans rfl
    clear hV3 x2 u2 z2 Z2 HB5 R5
    have HI := Lib.hid (show insG x a t m = ⟨x.f0, x.f1, putT x.f2 a1 t, pl, nz⟩ by unfold insG; rw [← HA.out, ← HK.out, ← HPL.out, ← HNZ.out])
    have r0 := (blk_cell Z3.out.h10 0).trans rfl
    have z0 := blk_frozen Z3.out.h10 0
    have r1 := (blk_cell Z3.out.h10 1).trans rfl
    have z1 := blk_frozen Z3.out.h10 1
    have r2 := (blk_cell Z3.out.h10 2).trans rfl
    have z2 := blk_frozen Z3.out.h10 2
    have r3 := (blk_cell Z3.out.h10 3).trans rfl
    have z3 := blk_frozen Z3.out.h10 3
    have r4 := (blk_cell Z3.out.h10 4).trans rfl
    have z4 := blk_frozen Z3.out.h10 4
    go_wp2
    refine bodyPost_ret (results_ct rfl _ _ (w.heap.size + 1) 31 (sgC ⟨x.f0, x.f1, putT x.f2 a1 t, pl, nz⟩ r A4 c4 B4 d4) (0, 0) _ rfl (by simpa using Z3.out.out5.1.2) Tryd.underlying31 rfl (by kernel_rfl)) rfl ?_
    rw [HI.out]
    exact ⟨r, A4, c4, B4, d4, rfl, Z3.out.out5.1.1, Z3.out.out5.2⟩
end Go.Proofs.YtjphmebhofkhcaaDoor.Seg
/- Segments: the walks of the laws' own has, text and loaded. Conditions: texts of at most 2^30 bytes. -/
namespace Go.Proofs.YtjphmebhofkhcaaDoor.Seg
open Go.RowKit Go.Proofs.YtjphmebhofkhcaaDoorPl Go.Proofs.YtjphmebhofkhcaaDoorW.PrintWords Go.Proofs.YtjphmebhofkhcaaDoorW.PrintLast Go.Proofs.YtjphmebhofkhcaaDoorW.PrintMore Go.Proofs.YtjphmebhofkhcaaDoor.Rope Go.Proofs.YtjphmebhofkhcaaDoor.PSegAll Go.Proofs.YtjphmebhofkhcaaDoor.Pure
set_option linter.unusedVariables false
set_option linter.unusedSimpArgs false
theorem same5_calls (x : G) (A : Option Addr) (c : Nat) (B : Option Addr) (d : Nat) (A2 : Option Addr) (c2 : Nat) (B2 : Option Addr) (d2 : Nat) (w : World) (h1 : GR w x A c B d) (h2 : GR w x A2 c2 B2 d2) (hz : Sz x) :
    Calls Tryd.prog 30 #[.agg (gC x A c B d), .agg (gC x A2 c2 B2 d2)] w fun e w' => e = .returned (.bool true) ∧ Below w.heap.size w w' := same5_true x A c B d A2 c2 B2 d2 w h1 h2 hz
/-- What has reads. -/
abbrev HQ (w : World) (x : G) (p A : Option Addr) (c : Nat) (B : Option Addr) (d : Nat) (A2 : Option Addr) (c2 : Nat) (B2 : Option Addr) (d2 : Nat) (V w' : World) : Prop :=
  Q5 V w.heap.size x p A c B d w' ∧ w'.cell? ⟨w.heap.size + 1, 0, none⟩ = some (.int .i64 x.f0) ∧ w'.cell? ⟨w.heap.size + 1, 1, none⟩ = some (.int .i64 x.f1) ∧ w'.cell? ⟨w.heap.size + 1, 2, none⟩ = some (.string x.f2) ∧ w'.cell? ⟨w.heap.size + 1, 3, none⟩ = some (.slice A2 x.f3.length c2) ∧ w'.cell? ⟨w.heap.size + 1, 4, none⟩ = some (.slice B2 x.f4.length d2)
theorem HQ.next {w : World} {x : G} {p A : Option Addr} {c : Nat} {B : Option Addr} {d : Nat} {A2 : Option Addr} {c2 : Nat} {B2 : Option Addr} {d2 : Nat} {V W W' : World} (h : HQ w x p A c B d A2 c2 B2 d2 V W) (hb : Below W.heap.size W W') : HQ w x p A c B d A2 c2 B2 d2 V W' :=
  ⟨Q5.next h.1 hb, pw_cell_below hb h.2.1, pw_cell_below hb h.2.2.1, pw_cell_below hb h.2.2.2.1, pw_cell_below hb h.2.2.2.2.1, pw_cell_below hb h.2.2.2.2.2⟩
theorem HQ.b {w : World} {x : G} {p A : Option Addr} {c : Nat} {B : Option Addr} {d : Nat} {A2 : Option Addr} {c2 : Nat} {B2 : Option Addr} {d2 : Nat} {V W : World} (h : HQ w x p A c B d A2 c2 B2 d2 V W) : Below V.heap.size V W := Q5.b h.1
set_option maxRecDepth 1000000 in
set_option maxHeartbeats 4000000 in
theorem has5_calls (x : G) (p A : Option Addr) (c : Nat) (B : Option Addr) (d : Nat) (A2 : Option Addr) (c2 : Nat) (B2 : Option Addr) (d2 : Nat) (w : World) (hs : SP w x p A c B d) (hr : GR w x A2 c2 B2 d2) (hz : Sz x) :
    Calls Tryd.prog 8 #[.agg (sgC x p A c B d), .agg (gC x A2 c2 B2 d2)] w fun e w' => e = .returned (.bool true) ∧ Below w.heap.size w w' := by
  have HS := Lib.hid hs
  have HR := Lib.hid hr
  have HZ := Lib.hid hz
  clear hs hr hz
  go_enter Tryd.func8, Tryd.ntmps8
  go_upto_region 1 with fail
  refine gen2 (φ := fun W => Code.wp _ _ _ _ W) (P := fun W => Below w.heap.size w W ∧ HQ w x p A c B d A2 c2 B2 d2 W W) ⟨below_alloc (below_alloc (Below.refl _ _) _) _, by
    have h5 : ((w.alloc (.cells (sgC x p A c B d) 31)).alloc (.cells (gC x A2 c2 B2 d2) 25)).heap[w.heap.size]? = some (.cells (sgC x p A c B d) 31 (0, 0)) := blk_alloc (blk_new w _) _
    have h3 : ((w.alloc (.cells (sgC x p A c B d) 31)).alloc (.cells (gC x A2 c2 B2 d2) 25)).heap[w.heap.size + 1]? = some (.cells (gC x A2 c2 B2 d2) 25 (0, 0)) := blk_newS (by simp)
    exact ⟨Q5.of h5 (Below.refl _ _), blk_cell h3 0, blk_cell h3 1, blk_cell h3 2, blk_cell h3 3, blk_cell h3 4⟩⟩ ?_
  rintro V ⟨hb, hq⟩
  have BV := Lib.hid hb
  have QV := Lib.hid hq
  clear hb hq
  have QV0 := Lib.hid (show HQ w x p A c B d A2 c2 B2 d2 V V.drew from HQ.next QV.out (by with_reducible repeat (first | exact Below.refl _ _ | apply pw_below_drewN | apply Below.drew)))
  refine wp_region_noPanic ?_
  refine wp_region_held_drew (S := fun w' : World => HQ w x p A c B d A2 c2 B2 d2 V w') ?hm_h ?hS_h (fun hHeld => ?_)
  case hm_h => kernel_rfl
  case hS_h => exact QV0.out
  refine wpAnyH_take (i := 0) (oi := ?oh0) (v := ?vh0) ?hi_h0 ?k1_h0 ?k2_h0 ?k3_h0 (fun _ _ _ h => h) (Or.inl ⟨?g_h0, ?y_h0⟩) (by assumption) ?r_h0
  case hi_h0 => (simp only [List.getElem?_toArray, List.getElem?_cons_succ, List.getElem?_cons_zero]; rfl)
  case k1_h0 => kernel_rfl
  case k2_h0 => kernel_rfl
  case k3_h0 => kernel_rfl
  case g_h0 => rfl
  case y_h0 => (intro w hSw; (try dsimp only at hSw); first | (go_simp; done) | (go_simp; with_reducible rfl))
  (try simp only [Act.put, List.setIfInBounds_toArray, List.set_cons_zero, List.set_cons_succ])
  refine wpAnyH_take (i := 2) (oi := ?oh2) (v := ?vh2) ?hi_h2 ?k1_h2 ?k2_h2 ?k3_h2 (fun _ _ _ h => h) (Or.inl ⟨?g_h2, ?y_h2⟩) (by assumption) ?r_h2
  case hi_h2 => (simp only [List.getElem?_toArray, List.getElem?_cons_succ, List.getElem?_cons_zero]; rfl)
  case k1_h2 => kernel_rfl
  case k2_h2 => kernel_rfl
  case k3_h2 => kernel_rfl
  case g_h2 => rfl
  case y_h2 => (intro w hSw; (try dsimp only at hSw); first | (go_simp; done) | (go_simp; with_reducible rfl))
  (try simp only [Act.put, List.setIfInBounds_toArray, List.set_cons_zero, List.set_cons_succ])
  refine wpAnyH_ready (rs := [1]) ?k1_h1 (by simp) ?r_h1
  case k1_h1 => kernel_rfl
  refine AllReadyH.cons (o := ?oh1) ?hi_h1 (fun K hK => ?s_h1) ?m_h1
  case hi_h1 => (simp only [List.getElem?_toArray, List.getElem?_cons_succ, List.getElem?_cons_zero]; rfl)
  case m_h1 => exact AllReadyH.nil
  go_simp
  (go_at_call 21; refine (plainG_calls x p A c B d _ (HS.out.below (below_step BV.out (HQ.b QV0.out))) HZ.out).mono ?_; rintro e w1 ⟨A5, c5, B5, d5, rfl, r3, r4, hb⟩; have R3 := Lib.hid r3; have R4 := Lib.hid r4; have Q1 := Lib.hid (HQ.next QV0.out hb); clear hb r3 r4)
  (try go_wp2_with fail)
  refine hK.out _ _ Q1.out (fun hHeld => ?_)
  clear hK K
  (try simp only [Act.put, List.setIfInBounds_toArray, List.set_cons_zero, List.set_cons_succ])
  refine wpAnyH_ready (rs := [3]) ?k1_h3 (by simp) ?r_h3
  case k1_h3 => kernel_rfl
  refine AllReadyH.cons (o := ?oh3) ?hi_h3 (fun K hK => ?s_h3) ?m_h3
  case hi_h3 => (simp only [List.getElem?_toArray, List.getElem?_cons_succ, List.getElem?_cons_zero]; rfl)
  case m_h3 => exact AllReadyH.nil
  go_simp
  (go_at_call 30; refine (same5_calls x A5 c5 B5 d5 A2 c2 B2 d2 _ ⟨(Kd.R_reads' R3.out).2.1, (Kd.R_reads' R4.out).2.1, (Kd.R_reads' R3.out).2.2, (Kd.R_reads' R4.out).2.2⟩ (HR.out.below (below_step BV.out (HQ.b Q1.out))) HZ.out).mono ?_; rintro e w3 ⟨rfl, hb⟩; have Q3 := Lib.hid (HQ.next Q1.out hb); clear hb)
  (try go_wp2_with fail)
  refine hK.out _ _ Q3.out (fun hHeld => ?_)
  clear hK K
  (try simp only [Act.put, List.setIfInBounds_toArray, List.set_cons_zero, List.set_cons_succ])
  refine wpAnyH_take (i := 4) (oi := ?oh4) (v := ?vh4) ?hi_h4 ?k1_h4 ?k2_h4 ?k3_h4 (fun _ _ _ h => h) (Or.inl ⟨?g_h4, ?y_h4⟩) (by assumption) ?r_h4
  case hi_h4 => (simp only [List.getElem?_toArray, List.getElem?_cons_succ, List.getElem?_cons_zero]; rfl)
  case k1_h4 => kernel_rfl
  case k2_h4 => kernel_rfl
  case k3_h4 => kernel_rfl
  case g_h4 => rfl
  case y_h4 => (intro w hSw; (try dsimp only at hSw); first | (go_simp; done) | (go_simp; with_reducible rfl))
  (try simp only [Act.put, List.setIfInBounds_toArray, List.set_cons_zero, List.set_cons_succ])
  refine wpAnyH_take (i := 5) (oi := ?oh5) (v := ?vh5) ?hi_h5 ?k1_h5 ?k2_h5 ?k3_h5 (fun _ _ _ h => h) (Or.inl ⟨?g_h5, ?y_h5⟩) (by assumption) ?r_h5
  case hi_h5 => (simp only [List.getElem?_toArray, List.getElem?_cons_succ, List.getElem?_cons_zero]; rfl)
  case k1_h5 => kernel_rfl
  case k2_h5 => kernel_rfl
  case k3_h5 => kernel_rfl
  case g_h5 => rfl
  case y_h5 => (intro w hSw; (try dsimp only at hSw); first | (go_simp; done) | (go_simp; with_reducible rfl))
  (try simp only [Act.put, List.setIfInBounds_toArray, List.set_cons_zero, List.set_cons_succ])
  refine wpAnyH_take (i := 7) (oi := ?oh7) (v := ?vh7) ?hi_h7 ?k1_h7 ?k2_h7 ?k3_h7 (fun _ _ _ h => h) (Or.inl ⟨?g_h7, ?y_h7⟩) (by assumption) ?r_h7
  case hi_h7 => (simp only [List.getElem?_toArray, List.getElem?_cons_succ, List.getElem?_cons_zero]; rfl)
  case k1_h7 => kernel_rfl
  case k2_h7 => kernel_rfl
  case k3_h7 => kernel_rfl
  case g_h7 => rfl
  case y_h7 => (intro w hSw; (try dsimp only at hSw); first | (go_simp; done) | (go_simp; with_reducible rfl))
  (try simp only [Act.put, List.setIfInBounds_toArray, List.set_cons_zero, List.set_cons_succ])
  refine wpAnyH_take (i := 8) (oi := ?oh8) (v := ?vh8) ?hi_h8 ?k1_h8 ?k2_h8 ?k3_h8 (fun _ _ _ h => h) (Or.inl ⟨?g_h8, ?y_h8⟩) (by assumption) ?r_h8
  case hi_h8 => (simp only [List.getElem?_toArray, List.getElem?_cons_succ, List.getElem?_cons_zero]; rfl)
  case k1_h8 => kernel_rfl
  case k2_h8 => kernel_rfl
  case k3_h8 => kernel_rfl
  case g_h8 => rfl
  case y_h8 => (intro w hSw; (try dsimp only at hSw); first | (go_simp; done) | (go_simp; with_reducible rfl))
  (try simp only [Act.put, List.setIfInBounds_toArray, List.set_cons_zero, List.set_cons_succ])
  refine wpAnyH_ready (rs := [6]) ?k1_h6 (by simp) ?r_h6
  case k1_h6 => kernel_rfl
  refine AllReadyH.cons (o := ?oh6) ?hi_h6 (fun K hK => ?s_h6) ?m_h6
  case hi_h6 => (simp only [List.getElem?_toArray, List.getElem?_cons_succ, List.getElem?_cons_zero]; rfl)
  case m_h6 => exact AllReadyH.nil
  go_simp
  (go_at_call 22; refine (id_calls x p A c B d _).mono ?_; rintro e w6 ⟨rfl, hb⟩; have Q6 := Lib.hid (HQ.next Q3.out hb); clear hb)
  (try go_wp2_with fail)
  refine hK.out _ _ Q6.out (fun hHeld => ?_)
  clear hK K
  (try simp only [Act.put, List.setIfInBounds_toArray, List.set_cons_zero, List.set_cons_succ])
  refine wpAnyH_take (i := 9) (oi := ?oh9) (v := ?vh9) ?hi_h9 ?k1_h9 ?k2_h9 ?k3_h9 (fun _ _ _ h => h) (Or.inl ⟨?g_h9, ?y_h9⟩) (by assumption) ?r_h9
  case hi_h9 => (simp only [List.getElem?_toArray, List.getElem?_cons_succ, List.getElem?_cons_zero]; rfl)
  case k1_h9 => kernel_rfl
  case k2_h9 => kernel_rfl
  case k3_h9 => kernel_rfl
  case g_h9 => rfl
  case y_h9 => (intro w hSw; (try dsimp only at hSw); first | (go_simp; done) | (go_simp; with_reducible rfl))
  (try simp only [Act.put, List.setIfInBounds_toArray, List.set_cons_zero, List.set_cons_succ])
  refine wpAnyH_take (i := 10) (oi := ?oh10) (v := ?vh10) ?hi_h10 ?k1_h10 ?k2_h10 ?k3_h10 (fun _ _ _ h => h) (Or.inl ⟨?g_h10, ?y_h10⟩) (by assumption) ?r_h10
  case hi_h10 => (simp only [List.getElem?_toArray, List.getElem?_cons_succ, List.getElem?_cons_zero]; rfl)
  case k1_h10 => kernel_rfl
  case k2_h10 => kernel_rfl
  case k3_h10 => kernel_rfl
  case g_h10 => rfl
  case y_h10 => (intro w hSw; (try dsimp only at hSw); first | (go_simp; done) | (go_simp; with_reducible rfl))
  (try simp only [Act.put, List.setIfInBounds_toArray, List.set_cons_zero, List.set_cons_succ])
  refine wpAnyH_take (i := 11) (oi := ?oh11) (v := ?vh11) ?hi_h11 ?k1_h11 ?k2_h11 ?k3_h11 (fun _ _ _ h => h) (Or.inl ⟨?g_h11, ?y_h11⟩) (by assumption) ?r_h11
  case hi_h11 => (simp only [List.getElem?_toArray, List.getElem?_cons_succ, List.getElem?_cons_zero]; rfl)
  case k1_h11 => kernel_rfl
  case k2_h11 => kernel_rfl
  case k3_h11 => kernel_rfl
  case g_h11 => rfl
  case y_h11 => (intro w hSw; (try dsimp only at hSw); first | (go_simp; done) | (go_simp; with_reducible rfl))
  (try simp only [Act.put, List.setIfInBounds_toArray, List.set_cons_zero, List.set_cons_succ])
  refine wpAnyH_take (i := 12) (oi := ?oh12) (v := ?vh12) ?hi_h12 ?k1_h12 ?k2_h12 ?k3_h12 (fun _ _ _ h => h) (Or.inl ⟨?g_h12, ?y_h12⟩) (by assumption) ?r_h12
  case hi_h12 => (simp only [List.getElem?_toArray, List.getElem?_cons_succ, List.getElem?_cons_zero]; rfl)
  case k1_h12 => kernel_rfl
  case k2_h12 => kernel_rfl
  case k3_h12 => kernel_rfl
  case g_h12 => rfl
  case y_h12 => (intro w hSw; (try dsimp only at hSw); first | (go_simp; done) | (go_simp; with_reducible rfl))
  (try simp only [Act.put, List.setIfInBounds_toArray, List.set_cons_zero, List.set_cons_succ])
  refine wpAnyH_take (i := 14) (oi := ?oh14) (v := ?vh14) ?hi_h14 ?k1_h14 ?k2_h14 ?k3_h14 (fun _ _ _ h => h) (Or.inl ⟨?g_h14, ?y_h14⟩) (by assumption) ?r_h14
  case hi_h14 => (simp only [List.getElem?_toArray, List.getElem?_cons_succ, List.getElem?_cons_zero]; rfl)
  case k1_h14 => kernel_rfl
  case k2_h14 => kernel_rfl
  case k3_h14 => kernel_rfl
  case g_h14 => rfl
  case y_h14 => (intro w hSw; (try dsimp only at hSw); first | (go_simp; done) | (go_simp; with_reducible rfl))
  (try simp only [Act.put, List.setIfInBounds_toArray, List.set_cons_zero, List.set_cons_succ])
  refine wpAnyH_take (i := 15) (oi := ?oh15) (v := ?vh15) ?hi_h15 ?k1_h15 ?k2_h15 ?k3_h15 (fun _ _ _ h => h) (Or.inl ⟨?g_h15, ?y_h15⟩) (by assumption) ?r_h15
  case hi_h15 => (simp only [List.getElem?_toArray, List.getElem?_cons_succ, List.getElem?_cons_zero]; rfl)
  case k1_h15 => kernel_rfl
  case k2_h15 => kernel_rfl
  case k3_h15 => kernel_rfl
  case g_h15 => rfl
  case y_h15 => (intro w hSw; (try dsimp only at hSw); first | (go_simp; done) | (go_simp; with_reducible rfl))
  (try simp only [Act.put, List.setIfInBounds_toArray, List.set_cons_zero, List.set_cons_succ])
  refine wpAnyH_ready (rs := [13]) ?k1_h13 (by simp) ?r_h13
  case k1_h13 => kernel_rfl
  refine AllReadyH.cons (o := ?oh13) ?hi_h13 (fun K hK => ?s_h13) ?m_h13
  case hi_h13 => (simp only [List.getElem?_toArray, List.getElem?_cons_succ, List.getElem?_cons_zero]; rfl)
  case m_h13 => exact AllReadyH.nil
  go_simp
  (go_at_call 23; refine (labelG_calls x p A c B d _).mono ?_; rintro e w13 ⟨rfl, hb⟩; have Q13 := Lib.hid (HQ.next Q6.out hb); clear hb)
  (try go_wp2_with fail)
  refine hK.out _ _ Q13.out (fun hHeld => ?_)
  clear hK K
  (try simp only [Act.put, List.setIfInBounds_toArray, List.set_cons_zero, List.set_cons_succ])
  refine wpAnyH_take (i := 16) (oi := ?oh16) (v := ?vh16) ?hi_h16 ?k1_h16 ?k2_h16 ?k3_h16 (fun _ _ _ h => h) (Or.inl ⟨?g_h16, ?y_h16⟩) (by assumption) ?r_h16
  case hi_h16 => (simp only [List.getElem?_toArray, List.getElem?_cons_succ, List.getElem?_cons_zero]; rfl)
  case k1_h16 => kernel_rfl
  case k2_h16 => kernel_rfl
  case k3_h16 => kernel_rfl
  case g_h16 => rfl
  case y_h16 => (intro w hSw; (try dsimp only at hSw); first | (go_simp; done) | (go_simp; with_reducible rfl))
  (try simp only [Act.put, List.setIfInBounds_toArray, List.set_cons_zero, List.set_cons_succ])
  refine wpAnyH_take (i := 17) (oi := ?oh17) (v := ?vh17) ?hi_h17 ?k1_h17 ?k2_h17 ?k3_h17 (fun _ _ _ h => h) (Or.inl ⟨?g_h17, ?y_h17⟩) (by assumption) ?r_h17
  case hi_h17 => (simp only [List.getElem?_toArray, List.getElem?_cons_succ, List.getElem?_cons_zero]; rfl)
  case k1_h17 => kernel_rfl
  case k2_h17 => kernel_rfl
  case k3_h17 => kernel_rfl
  case g_h17 => rfl
  case y_h17 => (intro w hSw; (try dsimp only at hSw); first | (go_simp; done) | (go_simp; with_reducible rfl))
  (try simp only [Act.put, List.setIfInBounds_toArray, List.set_cons_zero, List.set_cons_succ])
  refine wpAnyH_take (i := 18) (oi := ?oh18) (v := ?vh18) ?hi_h18 ?k1_h18 ?k2_h18 ?k3_h18 (fun _ _ _ h => h) (Or.inl ⟨?g_h18, ?y_h18⟩) (by assumption) ?r_h18
  case hi_h18 => (simp only [List.getElem?_toArray, List.getElem?_cons_succ, List.getElem?_cons_zero]; rfl)
  case k1_h18 => kernel_rfl
  case k2_h18 => kernel_rfl
  case k3_h18 => kernel_rfl
  case g_h18 => rfl
  case y_h18 => (intro w hSw; (try dsimp only at hSw); first | (go_simp; done) | (go_simp; with_reducible rfl))
  (try simp only [Act.put, List.setIfInBounds_toArray, List.set_cons_zero, List.set_cons_succ])
  refine wpAnyH_take (i := 19) (oi := ?oh19) (v := ?vh19) ?hi_h19 ?k1_h19 ?k2_h19 ?k3_h19 (fun _ _ _ h => h) (Or.inl ⟨?g_h19, ?y_h19⟩) (by assumption) ?r_h19
  case hi_h19 => (simp only [List.getElem?_toArray, List.getElem?_cons_succ, List.getElem?_cons_zero]; rfl)
  case k1_h19 => kernel_rfl
  case k2_h19 => kernel_rfl
  case k3_h19 => kernel_rfl
  case g_h19 => rfl
  case y_h19 => (intro w hSw; (try dsimp only at hSw); first | (go_simp; done) | (go_simp; with_reducible rfl))
  (try simp only [Act.put, List.setIfInBounds_toArray, List.set_cons_zero, List.set_cons_succ])
  refine wpAnyH_take (i := 22) (oi := ?oh22) (v := ?vh22) ?hi_h22 ?k1_h22 ?k2_h22 ?k3_h22 (fun _ _ _ h => h) (Or.inl ⟨?g_h22, ?y_h22⟩) (by assumption) ?r_h22
  case hi_h22 => (simp only [List.getElem?_toArray, List.getElem?_cons_succ, List.getElem?_cons_zero]; rfl)
  case k1_h22 => kernel_rfl
  case k2_h22 => kernel_rfl
  case k3_h22 => kernel_rfl
  case g_h22 => rfl
  case y_h22 => (intro w hSw; (try dsimp only at hSw); first | (go_simp; done) | (go_simp; with_reducible rfl))
  (try simp only [Act.put, List.setIfInBounds_toArray, List.set_cons_zero, List.set_cons_succ])
  refine wpAnyH_take (i := 23) (oi := ?oh23) (v := ?vh23) ?hi_h23 ?k1_h23 ?k2_h23 ?k3_h23 (fun _ _ _ h => h) (Or.inl ⟨?g_h23, ?y_h23⟩) (by assumption) ?r_h23
  case hi_h23 => (simp only [List.getElem?_toArray, List.getElem?_cons_succ, List.getElem?_cons_zero]; rfl)
  case k1_h23 => kernel_rfl
  case k2_h23 => kernel_rfl
  case k3_h23 => kernel_rfl
  case g_h23 => rfl
  case y_h23 => (intro w hSw; (try dsimp only at hSw); first | (go_simp; done) | (go_simp; with_reducible rfl))
  (try simp only [Act.put, List.setIfInBounds_toArray, List.set_cons_zero, List.set_cons_succ])
  refine wpAnyH_ready (rs := [20]) ?k1_h20 (by simp) ?r_h20
  case k1_h20 => kernel_rfl
  refine AllReadyH.cons (o := ?oh20) ?hi_h20 (fun K hK => ?s_h20) ?m_h20
  case hi_h20 => (simp only [List.getElem?_toArray, List.getElem?_cons_succ, List.getElem?_cons_zero]; rfl)
  case m_h20 => exact AllReadyH.nil
  go_simp
  (go_at_call 15; refine (ropeG_calls x p A c B d _).mono ?_; rintro e w20 ⟨rfl, hb⟩; have Q20 := Lib.hid (HQ.next Q13.out hb); clear hb)
  (try go_wp2_with fail)
  refine hK.out _ _ Q20.out (fun hHeld => ?_)
  clear hK K
  (try simp only [Act.put, List.setIfInBounds_toArray, List.set_cons_zero, List.set_cons_succ])
  refine wpAnyH_ready (rs := [21]) ?k1_h21 (by simp) ?r_h21
  case k1_h21 => kernel_rfl
  refine AllReadyH.cons (o := ?oh21) ?hi_h21 (fun K hK => ?s_h21) ?m_h21
  case hi_h21 => (simp only [List.getElem?_toArray, List.getElem?_cons_succ, List.getElem?_cons_zero]; rfl)
  case m_h21 => exact AllReadyH.nil
  go_simp
  (go_at_call 16; refine (text_rpS (p := p) (s := x.f2) (HS.out.rp.below (below_step BV.out (HQ.b Q20.out)))).mono ?_; rintro e w21 ⟨rfl, hb⟩; have QZ := Lib.hid (HQ.next Q20.out hb); clear hb)
  (try go_wp2_with fail)
  refine hK.out _ _ QZ.out (fun hHeld => ?_)
  clear hK K
  (try simp only [Act.put, List.setIfInBounds_toArray, List.set_cons_zero, List.set_cons_succ])
  refine wpAnyH_take (i := 24) (oi := ?oh24) (v := ?vh24) ?hi_h24 ?k1_h24 ?k2_h24 ?k3_h24 (fun _ _ _ h => h) (Or.inl ⟨?g_h24, ?y_h24⟩) (by assumption) ?r_h24
  case hi_h24 => (simp only [List.getElem?_toArray, List.getElem?_cons_succ, List.getElem?_cons_zero]; rfl)
  case k1_h24 => kernel_rfl
  case k2_h24 => kernel_rfl
  case k3_h24 => kernel_rfl
  case g_h24 => rfl
  case y_h24 => (intro w hSw; (try dsimp only at hSw); first | (go_simp; done) | (go_simp; with_reducible rfl))
  (try simp only [Act.put, List.setIfInBounds_toArray, List.set_cons_zero, List.set_cons_succ])
  refine wpAnyH_take (i := 25) (oi := ?oh25) (v := ?vh25) ?hi_h25 ?k1_h25 ?k2_h25 ?k3_h25 (fun _ _ _ h => h) (Or.inl ⟨?g_h25, ?y_h25⟩) (by assumption) ?r_h25
  case hi_h25 => (simp only [List.getElem?_toArray, List.getElem?_cons_succ, List.getElem?_cons_zero]; rfl)
  case k1_h25 => kernel_rfl
  case k2_h25 => kernel_rfl
  case k3_h25 => kernel_rfl
  case g_h25 => rfl
  case y_h25 => (intro w hSw; (try dsimp only at hSw); first | (go_simp; done) | (go_simp; with_reducible rfl))
  (try simp only [Act.put, List.setIfInBounds_toArray, List.set_cons_zero, List.set_cons_succ])
  refine wpAnyH_take (i := 26) (oi := ?oh26) (v := ?vh26) ?hi_h26 ?k1_h26 ?k2_h26 ?k3_h26 (fun _ _ _ h => h) (Or.inl ⟨?g_h26, ?y_h26⟩) (by assumption) ?r_h26
  case hi_h26 => (simp only [List.getElem?_toArray, List.getElem?_cons_succ, List.getElem?_cons_zero]; rfl)
  case k1_h26 => kernel_rfl
  case k2_h26 => kernel_rfl
  case k3_h26 => kernel_rfl
  case g_h26 => rfl
  case y_h26 => (intro w hSw; (try dsimp only at hSw); first | (go_simp; done) | (go_simp; with_reducible rfl))
  (try simp only [Act.put, List.setIfInBounds_toArray, List.set_cons_zero, List.set_cons_succ])
  refine wpAnyH_done (by kernel_rfl) ?_ _
  refine NoPanic.normal ?_
  go_wp2
  go_ret
  exact ⟨rfl, below_step BV.out (HQ.b QZ.out)⟩
/-- A segment is laid in a block of its own. -/
abbrev lay5 (W : World) (g : Nat) (y : G) (p A : Option Addr) (c : Nat) (B : Option Addr) (d : Nat) : World := ((((W.setCell ⟨g, 0, none⟩ (.int .i64 y.f0)).setCell ⟨g, 1, none⟩ (.int .i64 y.f1)).setCell ⟨g, 2, none⟩ (.pointer p)).setCell ⟨g, 3, none⟩ (.slice A y.f3.length c)).setCell ⟨g, 4, none⟩ (.slice B y.f4.length d)
theorem lay5_sp {W : World} {g : Nat} {y : G} {p A : Option Addr} {c : Nat} {B : Option Addr} {d : Nat} {z : G} {p' A' : Option Addr} {c' : Nat} {B' : Option Addr} {d' : Nat} (h : SP W z p' A' c' B' d') (hg : W.heap[g]? = some (.cells zC 31 (0, 0))) : SP (lay5 W g y p A c B d) z p' A' c' B' d' ∧ (lay5 W g y p A c B d).heap[g]? = some (.cells (sgC y p A c B d) 31 (0, 0)) := by
  have s := sp_set (sp_set (sp_set (sp_set (sp_set ⟨h, hg⟩ 0 (.int .i64 y.f0)) 1 (.int .i64 y.f1)) 2 (.pointer p)) 3 (.slice A y.f3.length c)) 4 (.slice B y.f4.length d)
  exact ⟨s.1, by simpa using s.2⟩
theorem lay5_below {w W : World} {g : Nat} {y : G} {p A : Option Addr} {c : Nat} {B : Option Addr} {d : Nat} (h : Below w.heap.size w W) (hg : w.heap.size ≤ g) : Below w.heap.size w (lay5 W g y p A c B d) := below_set (below_set (below_set (below_set (below_set h hg) hg) hg) hg) hg
theorem lay5_far {W : World} {g k : Nat} {y : G} {p A : Option Addr} {c : Nat} {B : Option Addr} {d : Nat} (h : g ≠ k) : (lay5 W g y p A c B d).heap[k]? = W.heap[k]? := by
  have e := fun (V : World) (j : Nat) (u : Value) => Below.heap_setCell V ⟨g, j, none⟩ u k (fun e => h e.symm)
  exact (e _ _ _).trans ((e _ _ _).trans ((e _ _ _).trans ((e _ _ _).trans (e _ _ _))))
/-- The law's own segment of a text. -/
def tG (s : ByteArray) : G := ⟨1, 2, s, [], []⟩
theorem ins_text {s : ByteArray} (hv : Lib.validD s.data.toList = true) : insG (nG 1 2) 0 s 0 = tG s := by
  have hv0 : Lib.validD (ByteArray.mk #[]).data.toList = true := by decide +kernel
  have h0 := (cnt_in hv0 (by decide)).1
  have e1 : clampI (cnt (nG 1 2).f2) 0 = 0 := by
    unfold clampI
    rw [if_neg (by decide : ¬ (0 : Int) < 0)]
    rw [if_neg]
    show ¬ cnt (ByteArray.mk #[]) < 0
    omega
  have el : lets (ByteArray.mk #[]) = [] := lets_eq (fun c hc => by cases hc) rfl
  unfold insG tG
  rw [e1]
  show (⟨1, 2, putT (ByteArray.mk #[]) 0 s, putL 0 (cnt s) 0 [], normY (([] : List S70).map (Mk.mvY (Mk.toP 0 (cnt s))))⟩ : G) = ⟨1, 2, s, [], []⟩
  have e2 : putT (ByteArray.mk #[]) 0 s = s := by
    unfold putT
    rw [el]
    simp only [List.take_nil, List.drop_nil, List.nil_append, List.append_nil]
    exact ofL_lets hv
  have e3 : putL 0 (cnt s) 0 [] = [] := by
    unfold putL putGo freshS
    rw [if_neg (by decide), if_pos (by decide)]
    exact addL_none _ _ (Int.le_refl _)
  rw [e2, e3]
  rfl
theorem ins_ok (s : ByteArray) (hv : Lib.validD s.data.toList = true) (hs : s.size ≤ 1073741824) : InsOk (nG 1 2) s := by
  refine ⟨⟨by decide, by decide, by decide⟩, ?_, by decide, hs, hv⟩
  unfold okB
  have hv0 : Lib.validD (nG 1 2).f2.data.toList = true := by decide +kernel
  rw [hv0]
  rfl
set_option maxRecDepth 1000000 in
set_option maxHeartbeats 4000000 in
theorem text5_calls (s : ByteArray) (w : World) (hT : Tabs w) (hv : Lib.validD s.data.toList = true) (hs : s.size ≤ 1000) :
    Calls Tryd.prog 9 #[.string s] w fun e w' => ∃ p A c B d, e = .returned (.agg (sgC (tG s) p A c B d)) ∧ SP w' (tG s) p A c B d ∧ Below w.heap.size w w' := by
  have HT := Lib.hid hT
  have HV := Lib.hid hv
  have HO := Lib.hid (ins_ok s hv (by omega))
  have HI := Lib.hid (ins_text hv)
  clear hT hv
  go_enter Tryd.func9, Tryd.ntmps9
  go_upto_region 1 with fail
  refine gen2 (φ := fun W => Code.wp _ _ _ _ W) (P := fun W => Below w.heap.size w W ∧ W.heap[w.heap.size]? = some (.cells zC 31 (0, 0))) ⟨below_alloc (Below.refl _ _) _, blk_new w _⟩ ?_
  rintro V0 ⟨hb0, h20⟩
  have B0 := Lib.hid hb0
  have X2 := Lib.hid h20
  clear hb0 h20
  go_upto_region 2 with (first
    | (go_at_call 31; refine (segNew_calls 1 2 _).mono ?_; rintro e w1 ⟨rfl, hb1⟩; have B1 := Lib.hid hb1; clear hb1)
    | (go_at_call 14; refine (of5_calls s _ (by omega) (HT.out.below (below_step B0.out B1.out)) HV.out).mono ?_; rintro e w2 ⟨q, rfl, hq, hb2⟩; have HQ := Lib.hid hq; have B2 := Lib.hid (below_step B1.out hb2); clear hq hb2)
    | (go_at_call 13; refine (segIns_calls (nG 1 2) none none 0 none 0 q s 0 0 1000 _ (nG_sp 1 2 _) HQ.out HO.out).mono ?_; rw [HI.out]; rintro e w3 h3; rw [if_neg (by show ¬ ((1000 : Int) < ((0 : Nat) : Int) + (s.size : Int)); omega)] at h3; obtain ⟨p, A, c, B, d, e3, s3, hb3⟩ := h3; subst e3; have S3 := Lib.hid s3; have B3 := Lib.hid (below_step B2.out hb3); clear s3 hb3)
    | ((with_reducible refine gate_dst (N := 3) rfl ?_); refine box_event ?hg (N := 3) ?hd (cs := zC) (t := 31) ?hr ?_; (case hd => rfl); (case hg => rfl); (case hr => first | (go_simp; done) | (go_simp; rfl)); intro gS hgS wS hxS hbS; have GS := Lib.hid (show w.heap.size ≤ gS by rw [hgS]; exact (below_step B0.out B3.out).size); have GN := Lib.hid (show gS ≠ w.heap.size by rw [hgS]; exact Nat.ne_of_gt (blk_lt (blk_below X2.out B3.out))); have X2S := Lib.hid (blk_below (blk_below X2.out B3.out) hbS); have XS := Lib.hid hxS; have BS := Lib.hid (below_step (below_step B0.out B3.out) hbS); have SS := Lib.hid (S3.out.below hbS); have q0 := (blk_cell hxS 0).trans rfl; have q1 := (blk_cell hxS 1).trans rfl; have q2 := (blk_cell hxS 2).trans rfl; have q3 := (blk_cell hxS 3).trans rfl; have q4 := (blk_cell hxS 4).trans rfl; have z0 := blk_frozen hxS 0; have z1 := blk_frozen hxS 1; have z2 := blk_frozen hxS 2; have z3 := blk_frozen hxS 3; have z4 := blk_frozen hxS 4; clear hgS hxS hbS))
  refine gen2 (φ := fun W => Code.wp _ _ _ _ W) (P := fun W => Below w.heap.size w W ∧ (SP W (tG s) p A c B d ∧ W.heap[gS]? = some (.cells (sgC (tG s) p A c B d) 31 (0, 0))) ∧ W.heap[w.heap.size]? = some (.cells zC 31 (0, 0))) ⟨lay5_below BS.out GS.out, lay5_sp SS.out XS.out, (lay5_far GN.out).trans X2S.out⟩ ?_
  rintro V ⟨hb, ⟨hs, hg⟩, h2⟩
  have BV := Lib.hid hb
  have SV := Lib.hid hs
  have X2V := Lib.hid h2
  have s0 := (blk_cell hg 0).trans rfl
  have s1 := (blk_cell hg 1).trans rfl
  have s2 := (blk_cell hg 2).trans rfl
  have s3 := (blk_cell hg 3).trans rfl
  have s4 := (blk_cell hg 4).trans rfl
  clear hb hs hg h2 q0 q1 q2 q3 q4 z0 z1 z2 z3 z4
  have r0 := (blk_cell X2V.out 0).trans rfl
  have z0 := blk_frozen X2V.out 0
  have r1 := (blk_cell X2V.out 1).trans rfl
  have z1 := blk_frozen X2V.out 1
  have r2 := (blk_cell X2V.out 2).trans rfl
  have z2 := blk_frozen X2V.out 2
  have r3 := (blk_cell X2V.out 3).trans rfl
  have z3 := blk_frozen X2V.out 3
  have r4 := (blk_cell X2V.out 4).trans rfl
  have z4 := blk_frozen X2V.out 4
  go_wp2
  have L := lay5_sp (y := tG s) (p := p) (A := A) (c := c) (B := B) (d := d) SV.out X2V.out
  refine bodyPost_ret (results_cell_row rfl _ _ w.heap.size 31 (sgC (tG s) p A c B d) (0, 0) _ rfl (by simpa using L.2) Tryd.underlying31 rfl (by kernel_rfl)) rfl ?_
  exact ⟨p, A, c, B, d, rfl, L.1, lay5_below BV.out (Nat.le_refl _)⟩
end Go.Proofs.YtjphmebhofkhcaaDoor.Seg
/- Segments: the walk of the law SegmentLoads. Conditions: none beside the row's. -/
namespace Go.Proofs.YtjphmebhofkhcaaDoor.Seg
open Go.RowKit Go.Proofs.YtjphmebhofkhcaaDoorPl Go.Proofs.YtjphmebhofkhcaaDoorW.PrintWords Go.Proofs.YtjphmebhofkhcaaDoorW.PrintLast Go.Proofs.YtjphmebhofkhcaaDoorW.PrintMore Go.Proofs.YtjphmebhofkhcaaDoor.Rope Go.Proofs.YtjphmebhofkhcaaDoor.PSegAll Go.Proofs.YtjphmebhofkhcaaDoor.Pure
set_option linter.unusedVariables false
set_option linter.unusedSimpArgs false
abbrev lay0 (W : World) (g : Nat) : World := ((((W.setCell ⟨g, 0, none⟩ (.int .i64 0)).setCell ⟨g, 1, none⟩ (.int .i64 0)).setCell ⟨g, 2, none⟩ (.pointer none)).setCell ⟨g, 3, none⟩ (.slice none 0 0)).setCell ⟨g, 4, none⟩ (.slice none 0 0)
theorem lay0_sp {W : World} {g : Nat} (hg : W.heap[g]? = some (.cells zC 31 (0, 0))) : (lay0 W g).heap[g]? = some (.cells zC 31 (0, 0)) := by
  have s := blk_set (blk_set (blk_set (blk_set (blk_set hg 0 (.int .i64 0)) 1 (.int .i64 0)) 2 (.pointer none)) 3 (.slice none 0 0)) 4 (.slice none 0 0)
  simpa using s
theorem lay0_below {w W : World} {g : Nat} (h : Below w.heap.size w W) (hg : w.heap.size ≤ g) : Below w.heap.size w (lay0 W g) := below_set (below_set (below_set (below_set (below_set h hg) hg) hg) hg) hg
def smallB (x : G) : Bool := decide (x.f2.size ≤ 1500) && decide (x.f3.length ≤ 300) && decide (x.f4.length ≤ 300)
theorem small_f (x : G) : chancellaw05_small.f x.f0 x.f1 x.f2 x.f3 x.f4 = some (smallB x) := by
  unfold chancellaw05_small.f smallB
  by_cases h1 : x.f2.size ≤ 1500
  · rw [if_pos (by omega), decide_eq_true h1]
    by_cases h2 : x.f3.length ≤ 300
    · rw [if_pos (by omega), decide_eq_true h2, Bool.true_and, Bool.true_and]
      congr 1
      exact decide_eq_decide.2 (by omega)
    · rw [if_neg (by omega), decide_eq_false h2]
      rfl
  · rw [if_neg (by omega), decide_eq_false h1]
    rfl
theorem small5_calls (x : G) (A : Option Addr) (c : Nat) (B : Option Addr) (d : Nat) (w : World) (h : GR w x A c B d) :
    Calls Tryd.prog 10 #[.agg (gC x A c B d)] w fun e w' => e = .returned (.bool (smallB x)) ∧ Below w.heap.size w w' := chancellaw05_small.calls x.f0 x.f1 x.f2 A c x.f3 B d x.f4 (smallB x) w h.r3 h.c3 h.r4 h.c4 (small_f x)
theorem small_iff {x : G} (h : smallB x = true) : x.f2.size ≤ 1500 ∧ x.f3.length ≤ 300 ∧ x.f4.length ≤ 300 := by
  unfold smallB at h
  rw [Bool.and_eq_true, Bool.and_eq_true, decide_eq_true_eq, decide_eq_true_eq, decide_eq_true_eq] at h
  exact ⟨h.1.1, h.1.2, h.2⟩
theorem small_sz {x : G} (h : smallB x = true) : Sz x := by
  obtain ⟨h1, h2, h3⟩ := small_iff h
  exact ⟨by omega, by omega, by omega⟩
end Go.Proofs.YtjphmebhofkhcaaDoor.Seg
/- Segments: the walks of Has, and of the reference's Insert. Conditions: texts of at most 2^30 bytes. -/
namespace Go.Proofs.YtjphmebhofkhcaaDoor.Seg
open Go.RowKit Go.Proofs.YtjphmebhofkhcaaDoorPl Go.Proofs.YtjphmebhofkhcaaDoorW.PrintWords Go.Proofs.YtjphmebhofkhcaaDoorW.PrintLast Go.Proofs.YtjphmebhofkhcaaDoorW.PrintMore Go.Proofs.YtjphmebhofkhcaaDoor.Rope Go.Proofs.YtjphmebhofkhcaaDoor.PSegAll Go.Proofs.YtjphmebhofkhcaaDoor.Pure
set_option linter.unusedVariables false
set_option linter.unusedSimpArgs false
attribute [local go_sem] max2_int min2_int max_two min_two
abbrev zP : Array Value := #[.int .i64 0, .int .i64 0, .string ByteArray.empty, .slice none 0 0, .slice none 0 0]
set_option maxRecDepth 1000000 in
set_option maxHeartbeats 4000000 in
theorem with5_calls (x : G) (A : Option Addr) (c : Nat) (B : Option Addr) (d : Nat) (xs : List S67) (ys : List S70) (A2 : Option Addr) (c2 : Nat) (B2 : Option Addr) (d2 : Nat) (w : World) :
    Calls Tryd.prog 48 #[.agg (gC x A c B d), .agg #[.slice A2 xs.length c2, .slice B2 ys.length d2]] w fun e w' => e = .returned (.agg (gC ⟨x.f0, x.f1, x.f2, xs, ys⟩ A2 c2 B2 d2)) ∧ Below w.heap.size w w' := by
  generalize hn1 : xs.length = n1
  generalize hn2 : ys.length = n2
  go_enter Tryd.func48, Tryd.ntmps48
  go_wp2
  refine bodyPost_ret (results_cell_row rfl _ _ (w.heap.size + 1 + 1) 25 #[.int .i64 x.f0, .int .i64 x.f1, .string x.f2, .slice A2 n1 c2, .slice B2 n2 d2] (0, 0) _ rfl (blk_newS (by simp)) Tryd.underlying25 rfl (by kernel_rfl)) rfl ?_
  subst hn1 hn2
  exact ⟨rfl, below_alloc (below_alloc (below_alloc (Below.refl _ _) _) _) _⟩
theorem count5_calls (s : ByteArray) (w : World) (hv : Lib.validD s.data.toList = true) (hs : s.size ≤ 1099511627776) : Calls Tryd.prog 40 #[.string s] w fun e w' => e = .returned (.int .i64 (cnt s)) ∧ Below w.heap.size w w' := by
  obtain ⟨k, hk⟩ := Go.Proofs.YtjphmebhofkhcaaDoorW.PrintWords.Ev.rounds (cnt_ev hv hs)
  exact chancelref01_Count.calls k s _ w hk
abbrev layP (W : World) (g : Nat) (y : G) (A : Option Addr) (c : Nat) (B : Option Addr) (d : Nat) : World := ((((W.setCell ⟨g, 0, none⟩ (.int .i64 y.f0)).setCell ⟨g, 1, none⟩ (.int .i64 y.f1)).setCell ⟨g, 2, none⟩ (.string y.f2)).setCell ⟨g, 3, none⟩ (.slice A y.f3.length c)).setCell ⟨g, 4, none⟩ (.slice B y.f4.length d)
theorem layP_blk {W : World} {g : Nat} {y : G} {A : Option Addr} {c : Nat} {B : Option Addr} {d : Nat} (hg : W.heap[g]? = some (.cells zP 25 (0, 0))) : (layP W g y A c B d).heap[g]? = some (.cells (gC y A c B d) 25 (0, 0)) := by
  have s := blk_set (blk_set (blk_set (blk_set (blk_set hg 0 (.int .i64 y.f0)) 1 (.int .i64 y.f1)) 2 (.string y.f2)) 3 (.slice A y.f3.length c)) 4 (.slice B y.f4.length d)
  simpa using s
theorem layP_below {w W : World} {g : Nat} {y : G} {A : Option Addr} {c : Nat} {B : Option Addr} {d : Nat} (h : Below w.heap.size w W) (hg : w.heap.size ≤ g) : Below w.heap.size w (layP W g y A c B d) := below_set (below_set (below_set (below_set (below_set h hg) hg) hg) hg) hg
theorem layP_far {W : World} {g k : Nat} {y : G} {A : Option Addr} {c : Nat} {B : Option Addr} {d : Nat} (h : g ≠ k) : (layP W g y A c B d).heap[k]? = W.heap[k]? := by
  have e := fun (V : World) (j : Nat) (u : Value) => Below.heap_setCell V ⟨g, j, none⟩ u k (fun e => h e.symm)
  exact (e _ _ _).trans ((e _ _ _).trans ((e _ _ _).trans ((e _ _ _).trans (e _ _ _))))
theorem tr_set {w : World} {x : G} {A : Option Addr} {c : Nat} {B : Option Addr} {d : Nat} {g : Nat} {cs0 : Array Value} (h : TR w x A c B d ∧ w.heap[g]? = some (.cells cs0 25 (0, 0))) (j : Nat) (u : Value) : TR (w.setCell ⟨g, j, none⟩ u) x A c B d ∧ (w.setCell ⟨g, j, none⟩ u).heap[g]? = some (.cells (cs0.setIfInBounds j u) 25 (0, 0)) :=
  ⟨h.1.move (set_typeS h.2 (by decide) _ _) (set_typeS h.2 (by decide) _ _), blk_set h.2 j u⟩
theorem layP_tr {W : World} {g : Nat} {y z : G} {A A' : Option Addr} {c c' : Nat} {B B' : Option Addr} {d d' : Nat} (h : TR W z A' c' B' d') {cs0 : Array Value} (hg : W.heap[g]? = some (.cells cs0 25 (0, 0))) : TR (layP W g y A c B d) z A' c' B' d' := (tr_set (tr_set (tr_set (tr_set (tr_set ⟨h, hg⟩ 0 (.int .i64 y.f0)) 1 (.int .i64 y.f1)) 2 (.string y.f2)) 3 (.slice A y.f3.length c)) 4 (.slice B y.f4.length d)).1
end Go.Proofs.YtjphmebhofkhcaaDoor.Seg
/- Segments: the walk of the laws' own loaded; Insert's answer on both sides. Conditions: texts of at most 2^30 bytes. -/
namespace Go.Proofs.YtjphmebhofkhcaaDoor.Seg
open Go.RowKit Go.Proofs.YtjphmebhofkhcaaDoorPl Go.Proofs.YtjphmebhofkhcaaDoorW.PrintWords Go.Proofs.YtjphmebhofkhcaaDoorW.PrintLast Go.Proofs.YtjphmebhofkhcaaDoorW.PrintMore Go.Proofs.YtjphmebhofkhcaaDoor.Rope Go.Proofs.YtjphmebhofkhcaaDoor.PSegAll Go.Proofs.YtjphmebhofkhcaaDoor.Pure
set_option linter.unusedVariables false
set_option linter.unusedSimpArgs false
abbrev D := S37
abbrev dC (y : D) : Array Value := #[.int .i64 y.f0, .int .i64 y.f1, .int .i64 y.f2, .int .i64 y.f3, .string y.f4]
noncomputable def loadOk (x : G) (t : ByteArray) : Bool := smallB x && okB x && decide (t.size ≤ 1500) && Lib.validD t.data.toList
/-- Three blocks of loaded's own. -/
structure LZ (w : World) (x : G) (A : Option Addr) (c : Nat) (B : Option Addr) (d : Nat) (y : D) (W : World) : Prop where
  b : Below w.heap.size w W
  h2 : W.heap[w.heap.size]? = some (.cells (gC x A c B d) 25 (0, 0))
  h3 : W.heap[w.heap.size + 1]? = some (.cells (dC y) 37 (0, 0))
  h4 : W.heap[w.heap.size + 2]? = some (.cells zC 31 (0, 0))
theorem LZ.next {w W W' : World} {x : G} {A : Option Addr} {c : Nat} {B : Option Addr} {d : Nat} {y : D} (h : LZ w x A c B d y W) (hb : Below W.heap.size W W') : LZ w x A c B d y W' := ⟨below_step h.b hb, blk_below h.h2 hb, blk_below h.h3 hb, blk_below h.h4 hb⟩
set_option maxRecDepth 1000000 in
set_option maxHeartbeats 8000000 in
theorem loaded5_calls (x : G) (A : Option Addr) (c : Nat) (B : Option Addr) (d : Nat) (y : D) (w : World) (hT : Tabs w) (hr : GR w x A c B d) (hy : y.f4.size ≤ 140737488355328) :
    Calls Tryd.prog 18 #[.agg (gC x A c B d), .agg (dC y)] w fun e w' => if loadOk x y.f4 = true then RetSeg x w e w' else e = .returned (.tuple #[.agg zC, .bool false]) ∧ Below w.heap.size w w' := by
  have HT := Lib.hid hT
  have HR := Lib.hid hr
  clear hT hr
  obtain ⟨sb, hsb⟩ : ∃ b, b = smallB x := ⟨_, rfl⟩
  obtain ⟨ob, hob⟩ : ∃ b, b = okB x := ⟨_, rfl⟩
  obtain ⟨vb, hvb⟩ : ∃ b, b = Lib.validD y.f4.data.toList := ⟨_, rfl⟩
  unfold loadOk
  rw [← hsb, ← hob, ← hvb]
  have HSB := Lib.hid hsb
  have HOB := Lib.hid hob
  have HVB := Lib.hid hvb
  clear hsb hob hvb
  cases sb with
  | false =>
    simp only [Bool.false_and, Bool.false_eq_true, if_false]
    go_enter Tryd.func18, Tryd.ntmps18
    go_upto_region 1 with fail
    refine gen2 (φ := fun W => Code.wp _ _ _ _ W) (P := fun W => LZ w x A c B d y W) ⟨below_alloc (below_alloc (below_alloc (Below.refl _ _) _) _) _, blk_alloc (blk_alloc (blk_new w _) _) _, blk_alloc (blk_newS (by simp)) _, blk_newS (by simp)⟩ ?_
    intro V0 hV0
    have ZZ := Lib.hid hV0
    have d4 := (blk_cell hV0.h3 4).trans rfl
    clear hV0
    have x0 := (blk_cell ZZ.out.h2 0).trans rfl
    have x1 := (blk_cell ZZ.out.h2 1).trans rfl
    have x2 := (blk_cell ZZ.out.h2 2).trans rfl
    have x3 := (blk_cell ZZ.out.h2 3).trans rfl
    have x4 := (blk_cell ZZ.out.h2 4).trans rfl
    go_upto_region 2 with (first | (go_at_call 10; refine (small5_calls x A c B d _ (HR.out.below ZZ.out.b)).mono ?_; rw [← HSB.out]; rintro e wn ⟨rfl, hb⟩; have ZN := Lib.hid (ZZ.out.next hb); clear ZZ; have ZZ := ZN; clear ZN hb; clear x0 x1 x2 x3 x4 d4; have d4 := (blk_cell ZZ.out.h3 4).trans rfl; have x0 := (blk_cell ZZ.out.h2 0).trans rfl; have x1 := (blk_cell ZZ.out.h2 1).trans rfl; have x2 := (blk_cell ZZ.out.h2 2).trans rfl; have x3 := (blk_cell ZZ.out.h2 3).trans rfl; have x4 := (blk_cell ZZ.out.h2 4).trans rfl) | (go_at_call 12; refine (right5_hand x A c B d _ (HR.out.below ZZ.out.b) HZ.out).mono ?_; rw [← HOB.out]; rintro e wn ⟨rfl, hb⟩; have ZN := Lib.hid (ZZ.out.next hb); clear ZZ; have ZZ := ZN; clear ZN hb; clear x0 x1 x2 x3 x4 d4; have d4 := (blk_cell ZZ.out.h3 4).trans rfl; have x0 := (blk_cell ZZ.out.h2 0).trans rfl; have x1 := (blk_cell ZZ.out.h2 1).trans rfl; have x2 := (blk_cell ZZ.out.h2 2).trans rfl; have x3 := (blk_cell ZZ.out.h2 3).trans rfl; have x4 := (blk_cell ZZ.out.h2 4).trans rfl) | (go_at_call 37; refine (refRight_calls y.f4 _ (by omega)).mono ?_; rw [← HVB.out]; rintro e wn ⟨rfl, hb⟩; have ZN := Lib.hid (ZZ.out.next hb); clear ZZ; have ZZ := ZN; clear ZN hb; clear x0 x1 x2 x3 x4 d4; have d4 := (blk_cell ZZ.out.h3 4).trans rfl; have x0 := (blk_cell ZZ.out.h2 0).trans rfl; have x1 := (blk_cell ZZ.out.h2 1).trans rfl; have x2 := (blk_cell ZZ.out.h2 2).trans rfl; have x3 := (blk_cell ZZ.out.h2 3).trans rfl; have x4 := (blk_cell ZZ.out.h2 4).trans rfl))
    have r0 := (blk_cell ZZ.out.h4 0).trans rfl
    have z0 := blk_frozen ZZ.out.h4 0
    have r1 := (blk_cell ZZ.out.h4 1).trans rfl
    have z1 := blk_frozen ZZ.out.h4 1
    have r2 := (blk_cell ZZ.out.h4 2).trans rfl
    have z2 := blk_frozen ZZ.out.h4 2
    have r3 := (blk_cell ZZ.out.h4 3).trans rfl
    have z3 := blk_frozen ZZ.out.h4 3
    have r4 := (blk_cell ZZ.out.h4 4).trans rfl
    have z4 := blk_frozen ZZ.out.h4 4
    go_wp2
    refine bodyPost_ret (results_ct rfl _ _ (w.heap.size + 2) 31 zC (0, 0) _ rfl (by simpa using lay0_sp ZZ.out.h4) Tryd.underlying31 rfl (by kernel_rfl)) rfl ?_
    exact ⟨rfl, lay0_below ZZ.out.b (by omega)⟩
  | true =>
    have HZ := Lib.hid (small_sz HSB.out.symm)
    cases ob with
    | false =>
      simp only [Bool.and_false, Bool.false_and, Bool.false_eq_true, if_false]
      go_enter Tryd.func18, Tryd.ntmps18
      go_upto_region 1 with fail
      refine gen2 (φ := fun W => Code.wp _ _ _ _ W) (P := fun W => LZ w x A c B d y W) ⟨below_alloc (below_alloc (below_alloc (Below.refl _ _) _) _) _, blk_alloc (blk_alloc (blk_new w _) _) _, blk_alloc (blk_newS (by simp)) _, blk_newS (by simp)⟩ ?_
      intro V0 hV0
      have ZZ := Lib.hid hV0
      have d4 := (blk_cell hV0.h3 4).trans rfl
      clear hV0
      have x0 := (blk_cell ZZ.out.h2 0).trans rfl
      have x1 := (blk_cell ZZ.out.h2 1).trans rfl
      have x2 := (blk_cell ZZ.out.h2 2).trans rfl
      have x3 := (blk_cell ZZ.out.h2 3).trans rfl
      have x4 := (blk_cell ZZ.out.h2 4).trans rfl
      go_upto_region 2 with (first | (go_at_call 10; refine (small5_calls x A c B d _ (HR.out.below ZZ.out.b)).mono ?_; rw [← HSB.out]; rintro e wn ⟨rfl, hb⟩; have ZN := Lib.hid (ZZ.out.next hb); clear ZZ; have ZZ := ZN; clear ZN hb; clear x0 x1 x2 x3 x4 d4; have d4 := (blk_cell ZZ.out.h3 4).trans rfl; have x0 := (blk_cell ZZ.out.h2 0).trans rfl; have x1 := (blk_cell ZZ.out.h2 1).trans rfl; have x2 := (blk_cell ZZ.out.h2 2).trans rfl; have x3 := (blk_cell ZZ.out.h2 3).trans rfl; have x4 := (blk_cell ZZ.out.h2 4).trans rfl) | (go_at_call 12; refine (right5_hand x A c B d _ (HR.out.below ZZ.out.b) HZ.out).mono ?_; rw [← HOB.out]; rintro e wn ⟨rfl, hb⟩; have ZN := Lib.hid (ZZ.out.next hb); clear ZZ; have ZZ := ZN; clear ZN hb; clear x0 x1 x2 x3 x4 d4; have d4 := (blk_cell ZZ.out.h3 4).trans rfl; have x0 := (blk_cell ZZ.out.h2 0).trans rfl; have x1 := (blk_cell ZZ.out.h2 1).trans rfl; have x2 := (blk_cell ZZ.out.h2 2).trans rfl; have x3 := (blk_cell ZZ.out.h2 3).trans rfl; have x4 := (blk_cell ZZ.out.h2 4).trans rfl) | (go_at_call 37; refine (refRight_calls y.f4 _ (by omega)).mono ?_; rw [← HVB.out]; rintro e wn ⟨rfl, hb⟩; have ZN := Lib.hid (ZZ.out.next hb); clear ZZ; have ZZ := ZN; clear ZN hb; clear x0 x1 x2 x3 x4 d4; have d4 := (blk_cell ZZ.out.h3 4).trans rfl; have x0 := (blk_cell ZZ.out.h2 0).trans rfl; have x1 := (blk_cell ZZ.out.h2 1).trans rfl; have x2 := (blk_cell ZZ.out.h2 2).trans rfl; have x3 := (blk_cell ZZ.out.h2 3).trans rfl; have x4 := (blk_cell ZZ.out.h2 4).trans rfl))
      have r0 := (blk_cell ZZ.out.h4 0).trans rfl
      have z0 := blk_frozen ZZ.out.h4 0
      have r1 := (blk_cell ZZ.out.h4 1).trans rfl
      have z1 := blk_frozen ZZ.out.h4 1
      have r2 := (blk_cell ZZ.out.h4 2).trans rfl
      have z2 := blk_frozen ZZ.out.h4 2
      have r3 := (blk_cell ZZ.out.h4 3).trans rfl
      have z3 := blk_frozen ZZ.out.h4 3
      have r4 := (blk_cell ZZ.out.h4 4).trans rfl
      have z4 := blk_frozen ZZ.out.h4 4
      go_wp2
      refine bodyPost_ret (results_ct rfl _ _ (w.heap.size + 2) 31 zC (0, 0) _ rfl (by simpa using lay0_sp ZZ.out.h4) Tryd.underlying31 rfl (by kernel_rfl)) rfl ?_
      exact ⟨rfl, lay0_below ZZ.out.b (by omega)⟩
    | true =>
      by_cases hsz : y.f4.size ≤ 1500
      · have ds : decide ((1500 : Int) < (y.f4.size : Int)) = false := by simp; omega
        cases vb with
        | false =>
          simp only [Bool.and_false, Bool.false_eq_true, if_false]
          go_enter Tryd.func18, Tryd.ntmps18
          go_upto_region 1 with fail
          refine gen2 (φ := fun W => Code.wp _ _ _ _ W) (P := fun W => LZ w x A c B d y W) ⟨below_alloc (below_alloc (below_alloc (Below.refl _ _) _) _) _, blk_alloc (blk_alloc (blk_new w _) _) _, blk_alloc (blk_newS (by simp)) _, blk_newS (by simp)⟩ ?_
          intro V0 hV0
          have ZZ := Lib.hid hV0
          have d4 := (blk_cell hV0.h3 4).trans rfl
          clear hV0
          have x0 := (blk_cell ZZ.out.h2 0).trans rfl
          have x1 := (blk_cell ZZ.out.h2 1).trans rfl
          have x2 := (blk_cell ZZ.out.h2 2).trans rfl
          have x3 := (blk_cell ZZ.out.h2 3).trans rfl
          have x4 := (blk_cell ZZ.out.h2 4).trans rfl
          go_upto_region 2 with (first | (go_at_call 10; refine (small5_calls x A c B d _ (HR.out.below ZZ.out.b)).mono ?_; rw [← HSB.out]; rintro e wn ⟨rfl, hb⟩; have ZN := Lib.hid (ZZ.out.next hb); clear ZZ; have ZZ := ZN; clear ZN hb; clear x0 x1 x2 x3 x4 d4; have d4 := (blk_cell ZZ.out.h3 4).trans rfl; have x0 := (blk_cell ZZ.out.h2 0).trans rfl; have x1 := (blk_cell ZZ.out.h2 1).trans rfl; have x2 := (blk_cell ZZ.out.h2 2).trans rfl; have x3 := (blk_cell ZZ.out.h2 3).trans rfl; have x4 := (blk_cell ZZ.out.h2 4).trans rfl) | (go_at_call 12; refine (right5_hand x A c B d _ (HR.out.below ZZ.out.b) HZ.out).mono ?_; rw [← HOB.out]; rintro e wn ⟨rfl, hb⟩; have ZN := Lib.hid (ZZ.out.next hb); clear ZZ; have ZZ := ZN; clear ZN hb; clear x0 x1 x2 x3 x4 d4; have d4 := (blk_cell ZZ.out.h3 4).trans rfl; have x0 := (blk_cell ZZ.out.h2 0).trans rfl; have x1 := (blk_cell ZZ.out.h2 1).trans rfl; have x2 := (blk_cell ZZ.out.h2 2).trans rfl; have x3 := (blk_cell ZZ.out.h2 3).trans rfl; have x4 := (blk_cell ZZ.out.h2 4).trans rfl) | (go_at_call 37; refine (refRight_calls y.f4 _ (by omega)).mono ?_; rw [← HVB.out]; rintro e wn ⟨rfl, hb⟩; have ZN := Lib.hid (ZZ.out.next hb); clear ZZ; have ZZ := ZN; clear ZN hb; clear x0 x1 x2 x3 x4 d4; have d4 := (blk_cell ZZ.out.h3 4).trans rfl; have x0 := (blk_cell ZZ.out.h2 0).trans rfl; have x1 := (blk_cell ZZ.out.h2 1).trans rfl; have x2 := (blk_cell ZZ.out.h2 2).trans rfl; have x3 := (blk_cell ZZ.out.h2 3).trans rfl; have x4 := (blk_cell ZZ.out.h2 4).trans rfl))
          have r0 := (blk_cell ZZ.out.h4 0).trans rfl
          have z0 := blk_frozen ZZ.out.h4 0
          have r1 := (blk_cell ZZ.out.h4 1).trans rfl
          have z1 := blk_frozen ZZ.out.h4 1
          have r2 := (blk_cell ZZ.out.h4 2).trans rfl
          have z2 := blk_frozen ZZ.out.h4 2
          have r3 := (blk_cell ZZ.out.h4 3).trans rfl
          have z3 := blk_frozen ZZ.out.h4 3
          have r4 := (blk_cell ZZ.out.h4 4).trans rfl
          have z4 := blk_frozen ZZ.out.h4 4
          go_wp2
          refine bodyPost_ret (results_ct rfl _ _ (w.heap.size + 2) 31 zC (0, 0) _ rfl (by simpa using lay0_sp ZZ.out.h4) Tryd.underlying31 rfl (by kernel_rfl)) rfl ?_
          exact ⟨rfl, lay0_below ZZ.out.b (by omega)⟩
        | true =>
          have e1 : (true && true && decide (y.f4.size ≤ 1500) && true) = true := by rw [decide_eq_true hsz]; rfl
          simp only [e1, if_true]
          clear e1
          go_enter Tryd.func18, Tryd.ntmps18
          go_upto_region 1 with fail
          refine gen2 (φ := fun W => Code.wp _ _ _ _ W) (P := fun W => LZ w x A c B d y W) ⟨below_alloc (below_alloc (below_alloc (Below.refl _ _) _) _) _, blk_alloc (blk_alloc (blk_new w _) _) _, blk_alloc (blk_newS (by simp)) _, blk_newS (by simp)⟩ ?_
          intro V0 hV0
          have ZZ := Lib.hid hV0
          have d4 := (blk_cell hV0.h3 4).trans rfl
          clear hV0
          have x0 := (blk_cell ZZ.out.h2 0).trans rfl
          have x1 := (blk_cell ZZ.out.h2 1).trans rfl
          have x2 := (blk_cell ZZ.out.h2 2).trans rfl
          have x3 := (blk_cell ZZ.out.h2 3).trans rfl
          have x4 := (blk_cell ZZ.out.h2 4).trans rfl
          go_upto_region 3 with (first | (go_at_call 10; refine (small5_calls x A c B d _ (HR.out.below ZZ.out.b)).mono ?_; rw [← HSB.out]; rintro e wn ⟨rfl, hb⟩; have ZN := Lib.hid (ZZ.out.next hb); clear ZZ; have ZZ := ZN; clear ZN hb; clear x0 x1 x2 x3 x4 d4; have d4 := (blk_cell ZZ.out.h3 4).trans rfl; have x0 := (blk_cell ZZ.out.h2 0).trans rfl; have x1 := (blk_cell ZZ.out.h2 1).trans rfl; have x2 := (blk_cell ZZ.out.h2 2).trans rfl; have x3 := (blk_cell ZZ.out.h2 3).trans rfl; have x4 := (blk_cell ZZ.out.h2 4).trans rfl) | (go_at_call 12; refine (right5_hand x A c B d _ (HR.out.below ZZ.out.b) HZ.out).mono ?_; rw [← HOB.out]; rintro e wn ⟨rfl, hb⟩; have ZN := Lib.hid (ZZ.out.next hb); clear ZZ; have ZZ := ZN; clear ZN hb; clear x0 x1 x2 x3 x4 d4; have d4 := (blk_cell ZZ.out.h3 4).trans rfl; have x0 := (blk_cell ZZ.out.h2 0).trans rfl; have x1 := (blk_cell ZZ.out.h2 1).trans rfl; have x2 := (blk_cell ZZ.out.h2 2).trans rfl; have x3 := (blk_cell ZZ.out.h2 3).trans rfl; have x4 := (blk_cell ZZ.out.h2 4).trans rfl) | (go_at_call 37; refine (refRight_calls y.f4 _ (by omega)).mono ?_; rw [← HVB.out]; rintro e wn ⟨rfl, hb⟩; have ZN := Lib.hid (ZZ.out.next hb); clear ZZ; have ZZ := ZN; clear ZN hb; clear x0 x1 x2 x3 x4 d4; have d4 := (blk_cell ZZ.out.h3 4).trans rfl; have x0 := (blk_cell ZZ.out.h2 0).trans rfl; have x1 := (blk_cell ZZ.out.h2 1).trans rfl; have x2 := (blk_cell ZZ.out.h2 2).trans rfl; have x3 := (blk_cell ZZ.out.h2 3).trans rfl; have x4 := (blk_cell ZZ.out.h2 4).trans rfl))
          go_wp2_with fail
          (go_at_call 11; refine (segLoad_good2 x A c B d _ (HT.out.below ZZ.out.b) (HR.out.below ZZ.out.b) HZ.out HOB.out.symm).mono ?_; rintro e w3 ⟨p, A5, c5, B5, d5, rfl, s3, hb3⟩; have Z3 := Lib.hid (ZZ.out.next hb3); have S3 := Lib.hid s3; clear s3 hb3)
          clear x0 x1 x2 x3 x4 d4
          have r0 := (blk_cell Z3.out.h4 0).trans rfl
          have z0 := blk_frozen Z3.out.h4 0
          have r1 := (blk_cell Z3.out.h4 1).trans rfl
          have z1 := blk_frozen Z3.out.h4 1
          have r2 := (blk_cell Z3.out.h4 2).trans rfl
          have z2 := blk_frozen Z3.out.h4 2
          have r3 := (blk_cell Z3.out.h4 3).trans rfl
          have z3 := blk_frozen Z3.out.h4 3
          have r4 := (blk_cell Z3.out.h4 4).trans rfl
          have z4 := blk_frozen Z3.out.h4 4
          go_wp2
          have L := lay5_sp (y := x) (p := p) (A := A5) (c := c5) (B := B5) (d := d5) S3.out Z3.out.h4
          refine bodyPost_ret (results_ct rfl _ _ (w.heap.size + 2) 31 (sgC x p A5 c5 B5 d5) (0, 0) _ rfl (by simpa using L.2) Tryd.underlying31 rfl (by kernel_rfl)) rfl ?_
          exact ⟨p, A5, c5, B5, d5, rfl, L.1, lay5_below (y := x) (p := p) (A := A5) (c := c5) (B := B5) (d := d5) Z3.out.b (by omega)⟩
      · have ds : decide ((1500 : Int) < (y.f4.size : Int)) = true := by simp; omega
        have e1 : (true && true && decide (y.f4.size ≤ 1500) && vb) = false := by rw [decide_eq_false hsz]; rfl
        simp only [e1, Bool.false_eq_true, if_false]
        clear e1
        go_enter Tryd.func18, Tryd.ntmps18
        go_upto_region 1 with fail
        refine gen2 (φ := fun W => Code.wp _ _ _ _ W) (P := fun W => LZ w x A c B d y W) ⟨below_alloc (below_alloc (below_alloc (Below.refl _ _) _) _) _, blk_alloc (blk_alloc (blk_new w _) _) _, blk_alloc (blk_newS (by simp)) _, blk_newS (by simp)⟩ ?_
        intro V0 hV0
        have ZZ := Lib.hid hV0
        have d4 := (blk_cell hV0.h3 4).trans rfl
        clear hV0
        have x0 := (blk_cell ZZ.out.h2 0).trans rfl
        have x1 := (blk_cell ZZ.out.h2 1).trans rfl
        have x2 := (blk_cell ZZ.out.h2 2).trans rfl
        have x3 := (blk_cell ZZ.out.h2 3).trans rfl
        have x4 := (blk_cell ZZ.out.h2 4).trans rfl
        go_upto_region 2 with (first | (go_at_call 10; refine (small5_calls x A c B d _ (HR.out.below ZZ.out.b)).mono ?_; rw [← HSB.out]; rintro e wn ⟨rfl, hb⟩; have ZN := Lib.hid (ZZ.out.next hb); clear ZZ; have ZZ := ZN; clear ZN hb; clear x0 x1 x2 x3 x4 d4; have d4 := (blk_cell ZZ.out.h3 4).trans rfl; have x0 := (blk_cell ZZ.out.h2 0).trans rfl; have x1 := (blk_cell ZZ.out.h2 1).trans rfl; have x2 := (blk_cell ZZ.out.h2 2).trans rfl; have x3 := (blk_cell ZZ.out.h2 3).trans rfl; have x4 := (blk_cell ZZ.out.h2 4).trans rfl) | (go_at_call 12; refine (right5_hand x A c B d _ (HR.out.below ZZ.out.b) HZ.out).mono ?_; rw [← HOB.out]; rintro e wn ⟨rfl, hb⟩; have ZN := Lib.hid (ZZ.out.next hb); clear ZZ; have ZZ := ZN; clear ZN hb; clear x0 x1 x2 x3 x4 d4; have d4 := (blk_cell ZZ.out.h3 4).trans rfl; have x0 := (blk_cell ZZ.out.h2 0).trans rfl; have x1 := (blk_cell ZZ.out.h2 1).trans rfl; have x2 := (blk_cell ZZ.out.h2 2).trans rfl; have x3 := (blk_cell ZZ.out.h2 3).trans rfl; have x4 := (blk_cell ZZ.out.h2 4).trans rfl) | (go_at_call 37; refine (refRight_calls y.f4 _ (by omega)).mono ?_; rw [← HVB.out]; rintro e wn ⟨rfl, hb⟩; have ZN := Lib.hid (ZZ.out.next hb); clear ZZ; have ZZ := ZN; clear ZN hb; clear x0 x1 x2 x3 x4 d4; have d4 := (blk_cell ZZ.out.h3 4).trans rfl; have x0 := (blk_cell ZZ.out.h2 0).trans rfl; have x1 := (blk_cell ZZ.out.h2 1).trans rfl; have x2 := (blk_cell ZZ.out.h2 2).trans rfl; have x3 := (blk_cell ZZ.out.h2 3).trans rfl; have x4 := (blk_cell ZZ.out.h2 4).trans rfl))
        have r0 := (blk_cell ZZ.out.h4 0).trans rfl
        have z0 := blk_frozen ZZ.out.h4 0
        have r1 := (blk_cell ZZ.out.h4 1).trans rfl
        have z1 := blk_frozen ZZ.out.h4 1
        have r2 := (blk_cell ZZ.out.h4 2).trans rfl
        have z2 := blk_frozen ZZ.out.h4 2
        have r3 := (blk_cell ZZ.out.h4 3).trans rfl
        have z3 := blk_frozen ZZ.out.h4 3
        have r4 := (blk_cell ZZ.out.h4 4).trans rfl
        have z4 := blk_frozen ZZ.out.h4 4
        go_wp2
        refine bodyPost_ret (results_ct rfl _ _ (w.heap.size + 2) 31 zC (0, 0) _ rfl (by simpa using lay0_sp ZZ.out.h4) Tryd.underlying31 rfl (by kernel_rfl)) rfl ?_
        exact ⟨rfl, lay0_below ZZ.out.b (by omega)⟩
theorem loadOk_iff {x : G} {t : ByteArray} (h : loadOk x t = true) : smallB x = true ∧ InsOk x t := by
  unfold loadOk at h
  rw [Bool.and_eq_true, Bool.and_eq_true, Bool.and_eq_true, decide_eq_true_eq] at h
  obtain ⟨⟨⟨h1, h2⟩, h3⟩, h4⟩ := h
  exact ⟨h1, small_sz h1, h2, by have := (small_iff h1).1; omega, by omega, h4⟩
end Go.Proofs.YtjphmebhofkhcaaDoor.Seg
/- Segments: the walk of the law SegmentInsert. Conditions: none beside the row's. -/
namespace Go.Proofs.YtjphmebhofkhcaaDoor.Seg
open Go.RowKit Go.Proofs.YtjphmebhofkhcaaDoorPl Go.Proofs.YtjphmebhofkhcaaDoorW.PrintWords Go.Proofs.YtjphmebhofkhcaaDoorW.PrintLast Go.Proofs.YtjphmebhofkhcaaDoorW.PrintMore Go.Proofs.YtjphmebhofkhcaaDoor.Rope Go.Proofs.YtjphmebhofkhcaaDoor.PSegAll Go.Proofs.YtjphmebhofkhcaaDoor.Pure
set_option linter.unusedVariables false
set_option linter.unusedSimpArgs false
theorem lets_ascii (s : ByteArray) (h : ∀ b ∈ s.data.toList, b.toNat < 128) : lets s = Rope.one s.data.toList := lets_eq (one_letts h) (one_flat _)
/-- The law's arguments in blocks of its own. -/
structure JZ (w : World) (x : G) (A : Option Addr) (c : Nat) (B : Option Addr) (d : Nat) (y : D) (W : World) : Prop where
  b : Below w.heap.size w W
  h2 : W.heap[w.heap.size]? = some (.cells (gC x A c B d) 25 (0, 0))
  h3 : W.heap[w.heap.size + 1]? = some (.cells (dC y) 37 (0, 0))
theorem JZ.next {w W W' : World} {x : G} {A : Option Addr} {c : Nat} {B : Option Addr} {d : Nat} {y : D} (h : JZ w x A c B d y W) (hb : Below W.heap.size W W') : JZ w x A c B d y W' := ⟨below_step h.b hb, blk_below h.h2 hb, blk_below h.h3 hb⟩
/-- A segment in a block. -/
structure SB (g : Nat) (x : G) (p A : Option Addr) (c : Nat) (B : Option Addr) (d : Nat) (W : World) : Prop where
  sp : SP W x p A c B d
  h : W.heap[g]? = some (.cells (sgC x p A c B d) 31 (0, 0))
theorem SB.next {g : Nat} {x : G} {p A : Option Addr} {c : Nat} {B : Option Addr} {d : Nat} {W W' : World} (h : SB g x p A c B d W) (hb : Below W.heap.size W W') : SB g x p A c B d W' := ⟨h.sp.below hb, blk_below h.h hb⟩
/-- .. and both segments. -/
structure KZ (w : World) (x : G) (A : Option Addr) (c : Nat) (B : Option Addr) (d : Nat) (y : D) (gS : Nat) (p A5 : Option Addr) (c5 : Nat) (B5 : Option Addr) (d5 : Nat) (g9 : Nat) (Y : G) (p9 A9 : Option Addr) (c9 : Nat) (B9 : Option Addr) (d9 : Nat) (W : World) : Prop where
  z : JZ w x A c B d y W
  s : SB gS x p A5 c5 B5 d5 W
  t : SB g9 Y p9 A9 c9 B9 d9 W
theorem KZ.next {w : World} {x : G} {A : Option Addr} {c : Nat} {B : Option Addr} {d : Nat} {y : D} {gS : Nat} {p A5 : Option Addr} {c5 : Nat} {B5 : Option Addr} {d5 : Nat} {g9 : Nat} {Y : G} {p9 A9 : Option Addr} {c9 : Nat} {B9 : Option Addr} {d9 : Nat} {W W' : World} (h : KZ w x A c B d y gS p A5 c5 B5 d5 g9 Y p9 A9 c9 B9 d9 W) (hb : Below W.heap.size W W') : KZ w x A c B d y gS p A5 c5 B5 d5 g9 Y p9 A9 c9 B9 d9 W' := ⟨h.z.next hb, h.s.next hb, h.t.next hb⟩
end Go.Proofs.YtjphmebhofkhcaaDoor.Seg
