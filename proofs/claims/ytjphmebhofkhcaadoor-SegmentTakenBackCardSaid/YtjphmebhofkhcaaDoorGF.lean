/- Segments: the walk of marks.Right at right marks. Conditions: at most 2^40 spans and sites. -/
import Derived.Test.YtjphmebhofkhcaaDoorGE
import Derived.Test.YtjphmebhofkhcaaDoorGD
import Derived.WalkSpells
import Derived.Lib.Hide
import Derived.Test.YtjphmebhofkhcaaDoorOwn
import Derived.Deep.RegionHeld3
import Derived.Shelf.Abstract
import Derived.Deep.DeepCutAuto
import Derived.Test.YtjphmebhofkhcaaDoorGHeld
namespace Go.Proofs.YtjphmebhofkhcaaDoor.Seg
open Go.RowKit Go.Proofs.YtjphmebhofkhcaaDoorPl Go.Proofs.YtjphmebhofkhcaaDoorW.PrintWords Go.Proofs.YtjphmebhofkhcaaDoorW.PrintLast Go.Proofs.YtjphmebhofkhcaaDoorW.PrintMore Go.Proofs.YtjphmebhofkhcaaDoor.Rope Go.Proofs.YtjphmebhofkhcaaDoor.PSegAll Go.Proofs.YtjphmebhofkhcaaDoor.Pure
set_option linter.unusedVariables false
set_option linter.unusedSimpArgs false
theorem ok_next {n : Int} : ∀ {xs : List S67} {q : Option S67} (i : Nat) {p x : S67}, spansOk n q xs = true → xs[i]? = some p → xs[i + 1]? = some x → spanOk n (some p) x = true
  | [], _, _, _, _, _, h1, _ => by simp at h1
  | s :: r, q, 0, p, x, h, h1, h2 => by
    rw [spansOk, Bool.and_eq_true] at h
    simp only [List.getElem?_cons_zero, Option.some.injEq] at h1
    subst h1
    rw [List.getElem?_cons_succ] at h2
    cases r with
    | nil => simp at h2
    | cons t u =>
      simp only [List.getElem?_cons_zero, Option.some.injEq] at h2
      subst h2
      have h3 := h.2
      rw [spansOk, Bool.and_eq_true] at h3
      exact h3.1
  | s :: r, q, i + 1, p, x, h, h1, h2 => by
    rw [spansOk, Bool.and_eq_true] at h
    rw [List.getElem?_cons_succ] at h1 h2
    exact ok_next i h.2 h1 h2
theorem site_next {ys : List S70} (h : ys.Pairwise siteLt) {i : Nat} {p x : S70} (h1 : ys[i]? = some p) (h2 : ys[i + 1]? = some x) : p.f1 < x.f1 ∨ p.f1 = x.f1 ∧ p.f0 < x.f0 := by
  obtain ⟨g1, e1⟩ := List.getElem?_eq_some_iff.1 h1
  obtain ⟨g2, e2⟩ := List.getElem?_eq_some_iff.1 h2
  have := List.pairwise_iff_getElem.1 h i (i + 1) g1 g2 (by omega)
  rw [e1, e2] at this
  exact this
theorem comp_calls (p x : S70) (w : World) (hlt : p.f1 < x.f1 ∨ p.f1 = x.f1 ∧ p.f0 < x.f0) : Calls Tryd.prog 64 #[.agg #[.int .i64 p.f0, .int .i64 p.f1], .agg #[.int .i64 x.f0, .int .i64 x.f1]] w fun e w' => (∃ z : Int, e = .returned (.int .i64 z) ∧ z < 0) ∧ Below w.heap.size w w' := by
  obtain ⟨k, hk⟩ := Go.Proofs.YtjphmebhofkhcaaDoorW.PrintWords.Ev.rounds (mr_compare p.f0 p.f1 x.f0 x.f1)
  refine (marks_compare.calls k p.f0 p.f1 x.f0 x.f1 _ w hk).mono ?_
  rintro e w' ⟨rfl, h⟩
  exact ⟨⟨_, rfl, Int.not_le.1 (fun g => (mr_compare_sign p.f0 p.f1 x.f0 x.f1).1 g hlt)⟩, h⟩
abbrev RZ (V : World) (gB : Nat) (gM : Nat) (sv : Value) (x : S70) (W : World) : Prop := W.cell? ⟨gB, 0, none⟩ = some (.int .i64 x.f0) ∧ W.cell? ⟨gB, 1, none⟩ = some (.int .i64 x.f1) ∧ W.cell? ⟨gM, 1, none⟩ = some sv ∧ Below V.heap.size V W
theorem RZ.next {V W W' : World} {gB gM : Nat} {sv : Value} {x : S70} (h : RZ V gB gM sv x W) (hb : Below W.heap.size W W') : RZ V gB gM sv x W' := ⟨pw_cell_below hb h.1, pw_cell_below hb h.2.1, pw_cell_below hb h.2.2.1, below_step h.2.2.2 hb⟩
abbrev RY (V : World) (gB : Nat) (gM : Nat) (sv : Value) (x : S70) (q : Addr) (y : S70) (W : World) : Prop := W.cell? ⟨gB, 0, none⟩ = some (.int .i64 x.f0) ∧ W.cell? ⟨gB, 1, none⟩ = some (.int .i64 x.f1) ∧ W.cell? ⟨gM, 1, none⟩ = some sv ∧ W.cell? q = some (.int .i64 y.f0) ∧ W.cell? ⟨q.block, q.off + 1, none⟩ = some (.int .i64 y.f1) ∧ Below V.heap.size V W
theorem RY.next {V W W' : World} {gB gM : Nat} {sv : Value} {x : S70} {q : Addr} {y : S70} (h : RY V gB gM sv x q y W) (hb : Below W.heap.size W W') : RY V gB gM sv x q y W' := ⟨pw_cell_below hb h.1, pw_cell_below hb h.2.1, pw_cell_below hb h.2.2.1, pw_cell_below hb h.2.2.2.1, pw_cell_below hb h.2.2.2.2.1, below_step h.2.2.2.2.2 hb⟩
set_option maxRecDepth 1000000 in
set_option maxHeartbeats 8000000 in
theorem right_true (A : Option Addr) (c : Nat) (xs : List S67) (B : Option Addr) (d : Nat) (ys : List S70) (n : Int) (w : World) (hr : Kd.C kS w A xs.length xs) (hs : Kd.C kY w B ys.length ys) (hl : xs.length ≤ 1099511627776) (hly : ys.length ≤ 1099511627776) (hok : rightB n xs ys = true) :
    Calls Tryd.prog 35 #[.agg #[.slice A xs.length c, .slice B ys.length d], .int .i64 n] w fun e w' => e = .returned (.bool true) ∧ Below w.heap.size w w' := by
  have HR := Lib.hid hr
  have HS := Lib.hid hs
  have HX := Lib.hid (Mk.right_iff.1 hok).1
  have HY := Lib.hid ((sitesOk_iff n none ys).1 (Mk.right_iff.1 hok).2)
  clear hr hs hok
  go_enter Tryd.func35, Tryd.ntmps35
  go_upto_region 1 with fail
  refine gen2 (φ := fun W => Code.wp _ _ _ _ W) (P := fun W => Below w.heap.size w W ∧ W.heap[w.heap.size]? = some (.cells #[.slice A xs.length c, .slice B ys.length d] 29 (0, 0))) ⟨below_alloc (Below.refl _ _) _, blk_new w _⟩ ?_
  rintro V ⟨hb, h2⟩
  have BV := Lib.hid hb
  have XM := Lib.hid h2
  have m0 := (blk_cell h2 0).trans rfl
  clear hb h2
  go_wp2
  clear m0
  go_loopw [13] (fun s13 wr => ∃ kk : Nat, kk ≤ xs.length ∧ s13 = .int .i64 (kk : Int) ∧ Hid (Below V.heap.size V wr)) (fun s13 _ => xs.length - Mk.cntM s13)
  case atStart => exact ⟨0, Nat.zero_le _, rfl, Lib.hid (Below.refl _ _)⟩
  case round =>
    obtain ⟨kk, hkk, rfl, ZW⟩ := hrel
    by_cases hlt : kk < xs.length
    · have d1 : decide ((kk : Int) < (xs.length : Int)) = true := by simp; omega
      have b1 : (0 : Int) ≤ (kk : Int) := by omega
      have b2 : (kk : Int) < (xs.length : Int) := by omega
      have w1_ : IntKind.i64.wrap ((kk : Int) + 1) = (kk : Int) + 1 := IntWalk.i64_in _ (by omega)
      obtain ⟨x, hx⟩ : ∃ x, xs[kk]? = some x := ⟨_, List.getElem?_eq_getElem hlt⟩
      have HXX := Lib.hid hx
      obtain ⟨ad, e0, y0, y1, y2⟩ := Mk.at_S (Kd.C_below HR.out (below_step BV.out ZW.out)) hx hlt
      subst e0
      obtain ⟨g1, g2, g3, g4⟩ := ok_each HX.out x (List.mem_of_getElem? hx)
      have c1 : decide (x.f0 ≤ 0) = false := by simp; omega
      have c2 : decide (x.f1 < 0) = false := by simp; omega
      have c3 : decide (x.f2 ≤ x.f1) = false := by simp; omega
      have c4 : decide (n < x.f2) = false := by simp; omega
      have k1 : ¬ x.f0 ≤ 0 := by omega
      have k2 : ¬ x.f1 < 0 := by omega
      have k3 : ¬ x.f2 ≤ x.f1 := by omega
      have k4 : ¬ n < x.f2 := by omega
      clear hx g1 g2 g3 g4
      go_upto_region 4 with (first | ((with_reducible refine gate_dst (N := 6) rfl ?_); refine box_event ?hg (N := 6) ?hd (cs := #[.int .i64 0, .int .i64 0, .int .i64 0]) (t := 67) ?hr ?_; (case hd => rfl); (case hg => rfl); (case hr => first | (go_simp; done) | (go_simp; rfl)); intro gB hgB wB hxB hbB; have GB := Lib.hid (show Mk.TBm 67 wr gB #[.int .i64 0, .int .i64 0, .int .i64 0] wB from ⟨hbB, by rw [hgB]; exact Nat.le_refl _, hxB⟩); have q0 := (blk_cell hxB 0).trans rfl; have q1 := (blk_cell hxB 1).trans rfl; have q2 := (blk_cell hxB 2).trans rfl; have z0 := blk_frozen hxB 0; have z1 := blk_frozen hxB 1; have z2 := blk_frozen hxB 2; clear hgB hxB hbB))
      refine gen2 (φ := fun W => Code.wp _ _ _ _ W) (P := fun W => Mk.TBm 67 wr gB #[.int .i64 x.f0, .int .i64 x.f1, .int .i64 x.f2] W) (((GB.out.set 0 (.int .i64 x.f0)).set 1 (.int .i64 x.f1)).set 2 (.int .i64 x.f2)) ?_
      clear q0 q1 q2 z0 z1 z2 GB y0 y1 y2
      rintro V3 hV3
      have B3 := Lib.hid (below_step ZW.out hV3.b)
      have T3 := Lib.hid hV3.hx
      have t0 := (blk_cell hV3.hx 0).trans rfl
      have t1 := (blk_cell hV3.hx 1).trans rfl
      have t2 := (blk_cell hV3.hx 2).trans rfl
      clear hV3 ZW
      by_cases hk : kk = 0
      · have dk : decide ((0 : Int) < (kk : Int)) = false := by simp [hk]
        have nk : ¬ (0 : Int) < (kk : Int) := by omega
        go_wp2
        go_roundw
        case rel => exact ⟨kk + 1, by omega, by go_num, B3⟩
        case measure =>
          simp only [Mk.cntM]
          omega
      · obtain ⟨jj, rfl⟩ : ∃ jj, kk = jj + 1 := ⟨kk - 1, by omega⟩
        have dk : decide ((0 : Int) < ((jj + 1 : Nat) : Int)) = true := by simp
        have wp_ : IntKind.i64.wrap (((jj + 1 : Nat) : Int) - 1) = (jj : Int) := by rw [show ((jj + 1 : Nat) : Int) - 1 = (jj : Int) by omega]; exact IntWalk.i64_in _ (by omega)
        have p1 : (0 : Int) ≤ (jj : Int) := by omega
        have p2 : (jj : Int) < (xs.length : Int) := by omega
        have m0 := (blk_cell (blk_below XM.out B3.out) 0).trans rfl
        obtain ⟨p, hp⟩ : ∃ p, xs[jj]? = some p := ⟨_, List.getElem?_eq_getElem (by omega)⟩
        obtain ⟨ad2, e2, y0, y1, y2⟩ := Mk.at_S (Kd.C_below HR.out (below_step BV.out B3.out)) hp (by omega)
        injection e2 with e2
        subst e2
        have hn := (spanOk_iff n (some p) x).1 (ok_next jj HX.out hp HXX.out)
        have h5 := hn.2.2.2.2 p rfl
        have c5 : decide (x.f1 < p.f2) = false := by simp; omega
        have k5 : ¬ x.f1 < p.f2 := by omega
        clear hp hn dk
        go_upto_region 8 with (first | ((with_reducible refine gate_dst (N := 7) rfl ?_); refine box_event ?hg (N := 7) ?hd (cs := #[.int .i64 0, .int .i64 0, .int .i64 0]) (t := 67) ?hr ?_; (case hd => rfl); (case hg => rfl); (case hr => first | (go_simp; done) | (go_simp; rfl)); intro gP hgP wP hxP hbP; have GP := Lib.hid (show Mk.TBm 67 V3 gP #[.int .i64 0, .int .i64 0, .int .i64 0] wP from ⟨hbP, by rw [hgP]; exact Nat.le_refl _, hxP⟩); have q0 := (blk_cell hxP 0).trans rfl; have q1 := (blk_cell hxP 1).trans rfl; have q2 := (blk_cell hxP 2).trans rfl; have z0 := blk_frozen hxP 0; have z1 := blk_frozen hxP 1; have z2 := blk_frozen hxP 2; clear hgP hxP hbP))
        refine gen2 (φ := fun W => Code.wp _ _ _ _ W) (P := fun W => Mk.TBm 67 V3 gP #[.int .i64 p.f0, .int .i64 p.f1, .int .i64 p.f2] W) (((GP.out.set 0 (.int .i64 p.f0)).set 1 (.int .i64 p.f1)).set 2 (.int .i64 p.f2)) ?_
        clear q0 q1 q2 z0 z1 z2 GP y0 y1 y2 m0 t0 t1 t2
        rintro V4 hV4
        have B4 := Lib.hid (below_step B3.out hV4.b)
        have t0 := (blk_cell (blk_below T3.out hV4.b) 0).trans rfl
        have t1 := (blk_cell (blk_below T3.out hV4.b) 1).trans rfl
        have u0 := (blk_cell hV4.hx 0).trans rfl
        have u2 := (blk_cell hV4.hx 2).trans rfl
        clear hV4
        have c5 : decide (x.f1 < p.f2) = false := by simp; omega
        have k5 : ¬ x.f1 < p.f2 := by omega
        by_cases h6 : p.f2 = x.f1
        · have h7 : p.f0 ≠ x.f0 := by
            rcases h5 with h5 | h5
            · omega
            · exact h5.2
          clear h5
          generalize hv1 : x.f1 = v1 at *
          generalize hv2 : x.f0 = v2 at *
          generalize hv3 : p.f2 = v3 at *
          generalize hv4 : p.f0 = v4 at *
          subst h6
          have c6 : (v4 == v2) = false := by simpa using h7
          have c7 : decide (v4 = v2) = false := by simpa using h7
          have c8 : ¬ v4 = v2 := h7
          clear h7 hv1 hv2 hv3 hv4
          go_wp2
          go_roundw
          case rel => exact ⟨jj + 1 + 1, by omega, by go_num, B4⟩
          case measure =>
            simp only [Mk.cntM]
            omega
        · clear h5
          generalize hv1 : x.f1 = v1 at *
          generalize hv2 : x.f0 = v2 at *
          generalize hv3 : p.f2 = v3 at *
          generalize hv4 : p.f0 = v4 at *
          have c6 : (v3 == v1) = false := by simpa using h6
          have c7 : decide (v3 = v1) = false := by simpa using h6
          have c8 : ¬ v3 = v1 := h6
          clear h6 hv1 hv2 hv3 hv4
          go_wp2
          go_roundw
          case rel => exact ⟨jj + 1 + 1, by omega, by go_num, B4⟩
          case measure =>
            simp only [Mk.cntM]
            omega
    · have d1 : decide ((kk : Int) < (xs.length : Int)) = false := by simp; omega
      have m1 := (blk_cell (blk_below XM.out ZW.out) 1).trans rfl
      go_wp2
      clear m1
      go_loopw [70] (fun s70 w2 => ∃ kk : Nat, kk ≤ ys.length ∧ s70 = .int .i64 (kk : Int) ∧ Hid (Below V.heap.size V w2)) (fun s70 _ => ys.length - Mk.cntM s70)
      case atStart => exact ⟨0, Nat.zero_le _, rfl, ZW⟩
      case round =>
        clear ZW d1
        obtain ⟨jj, hjj, rfl, YW⟩ := hrel
        by_cases hlt2 : jj < ys.length
        · have d1 : decide ((jj : Int) < (ys.length : Int)) = true := by simp; omega
          have b1 : (0 : Int) ≤ (jj : Int) := by omega
          have b2 : (jj : Int) < (ys.length : Int) := by omega
          have w1_ : IntKind.i64.wrap ((jj : Int) + 1) = (jj : Int) + 1 := IntWalk.i64_in _ (by omega)
          obtain ⟨x, hx⟩ : ∃ x, ys[jj]? = some x := ⟨_, List.getElem?_eq_getElem hlt2⟩
          have HXX := Lib.hid hx
          obtain ⟨ad, e0, y0, y1⟩ := Mk.at_Y (Kd.C_below HS.out (below_step BV.out YW.out)) hx hlt2
          subst e0
          obtain ⟨g1, g2, g3⟩ := HY.out.1 x (List.mem_of_getElem? hx)
          clear hx
          go_upto_region 14 with (first | ((with_reducible refine gate_dst (N := 9) rfl ?_); refine box_event ?hg (N := 9) ?hd (cs := #[.int .i64 0, .int .i64 0]) (t := 70) ?hr ?_; (case hd => rfl); (case hg => rfl); (case hr => first | (go_simp; done) | (go_simp; rfl)); intro gB hgB wB hxB hbB; have GB := Lib.hid (show Mk.TBm 70 wr gB #[.int .i64 0, .int .i64 0] wB from ⟨hbB, by rw [hgB]; exact Nat.le_refl _, hxB⟩); have q0 := (blk_cell hxB 0).trans rfl; have q1 := (blk_cell hxB 1).trans rfl; have z0 := blk_frozen hxB 0; have z1 := blk_frozen hxB 1; clear hgB hxB hbB))
          refine gen2 (φ := fun W => Code.wp _ _ _ _ W) (P := fun W => Mk.TBm 70 wr gB #[.int .i64 x.f0, .int .i64 x.f1] W) ((GB.out.set 0 (.int .i64 x.f0)).set 1 (.int .i64 x.f1)) ?_
          clear q0 q1 z0 z1 GB y0 y1
          rintro V3 hV3
          have B3 := Lib.hid (below_step YW.out hV3.b)
          have T3 := Lib.hid hV3.hx
          clear hV3 YW
          have k1 : decide (x.f0 ≤ 0) = false := by simp; omega
          have k2 : decide (x.f1 < 0) = false := by simp; omega
          have k3 : decide (n < x.f1) = false := by simp; omega
          have f1 : ¬ x.f0 ≤ 0 := by omega
          have f2 : ¬ x.f1 < 0 := by omega
          have f3 : ¬ n < x.f1 := by omega
          clear g1 g2 g3
          by_cases hk : jj = 0
          · have dk : decide ((0 : Int) < (jj : Int)) = false := by simp [hk]
            have nk : ¬ (0 : Int) < (jj : Int) := by omega
            have QS := Lib.hid (show RZ V3 gB w.heap.size (.slice (some ad) ys.length d) x V3 from ⟨(blk_cell T3.out 0).trans rfl, (blk_cell T3.out 1).trans rfl, (blk_cell (blk_below XM.out B3.out) 1).trans rfl, Below.refl _ _⟩)
            have z0 := QS.out.1
            have z1 := QS.out.2.1
            have z2 := QS.out.2.2.1
            clear QS
            go_quiet (fail)
            have B4 := Lib.hid (below_step B3.out (show Below V3.heap.size V3 (V3.drewN nq) from pw_below_drewN (Below.refl _ _) _))
            go_wp2
            go_roundw
            case rel => exact ⟨jj + 1, by omega, by go_num, B4⟩
            case measure =>
              simp only [Mk.cntM]
              omega
          · obtain ⟨ii, rfl⟩ : ∃ ii, jj = ii + 1 := ⟨jj - 1, by omega⟩
            have dk : decide ((0 : Int) < ((ii + 1 : Nat) : Int)) = true := by simp
            have wp_ : IntKind.i64.wrap (((ii + 1 : Nat) : Int) - 1) = (ii : Int) := by rw [show ((ii + 1 : Nat) : Int) - 1 = (ii : Int) by omega]; exact IntWalk.i64_in _ (by omega)
            have wq_ : IntKind.i64.wrap (ii : Int) = (ii : Int) := IntWalk.i64_in _ (by omega)
            have p1 : (0 : Int) ≤ (ii : Int) := by omega
            have p2 : (ii : Int) < (ys.length : Int) := by omega
            obtain ⟨p, hp⟩ : ∃ p, ys[ii]? = some p := ⟨_, List.getElem?_eq_getElem (by omega)⟩
            obtain ⟨ad2, e2, y0, y1⟩ := Mk.at_Y (Kd.C_below HS.out (below_step BV.out B3.out)) hp (by omega)
            injection e2 with e2
            subst e2
            have LT := Lib.hid (site_next HY.out.2.1 hp HXX.out)
            clear hp
            have QS := Lib.hid (show RY V3 gB w.heap.size (.slice (some ad) ys.length d) x (ad.add (ii * 2)) p V3 from ⟨(blk_cell T3.out 0).trans rfl, (blk_cell T3.out 1).trans rfl, (blk_cell (blk_below XM.out B3.out) 1).trans rfl, y0, y1, Below.refl _ _⟩)
            clear y0 y1
            go_region_held3 (fun w' => RY V3 gB w.heap.size (.slice (some ad) ys.length d) x (ad.add (ii * 2)) p w')
              (first | (with_reducible assumption) | (with_reducible exact HS1.out) | exact QS.out.next (by with_reducible repeat (first | exact Below.refl _ _ | apply pw_below_drewN | apply Below.drew)))
              (first | (go_at_call 64; (refine (comp_calls p x _ LT.out).mono ?_); rintro e w9 ⟨⟨zz, rfl, hz⟩, hg9⟩; have HS1 := Lib.hid (RY.next (V := V3) (gB := gB) (gM := w.heap.size) (sv := .slice (some ad) ys.length d) (q := ad.add (ii * 2)) (y := p) (x := x) (by assumption) hg9); have zf : decide (0 ≤ zz) = false := (by simp; omega); have zn : ¬ 0 ≤ zz := (by omega); clear hg9 hz))
            have B4 := Lib.hid (below_step B3.out HS1.out.2.2.2.2.2)
            clear HS1 QS
            go_wp2
            go_roundw
            case rel => exact ⟨ii + 1 + 1, by omega, by go_num, B4⟩
            case measure =>
              simp only [Mk.cntM]
              omega
        · have d1 : decide ((jj : Int) < (ys.length : Int)) = false := by simp; omega
          go_wp2
          refine bodyPost_ret (results_tmp rfl _ _ _) rfl ?_
          exact ⟨rfl, below_step BV.out YW.out⟩
end Go.Proofs.YtjphmebhofkhcaaDoor.Seg
/- Segments: segment.Load at values that may be loaded, over right_true. -/
namespace Go.Proofs.YtjphmebhofkhcaaDoor.Seg
open Go.RowKit Go.Proofs.YtjphmebhofkhcaaDoorPl Go.Proofs.YtjphmebhofkhcaaDoorW.PrintWords Go.Proofs.YtjphmebhofkhcaaDoorW.PrintLast Go.Proofs.YtjphmebhofkhcaaDoorW.PrintMore Go.Proofs.YtjphmebhofkhcaaDoor.Rope Go.Proofs.YtjphmebhofkhcaaDoor.PSegAll Go.Proofs.YtjphmebhofkhcaaDoor.Pure
set_option linter.unusedVariables false
set_option linter.unusedSimpArgs false
set_option maxRecDepth 1000000 in
set_option maxHeartbeats 4000000 in
theorem load_right (x : G) (A : Option Addr) (c : Nat) (B : Option Addr) (d : Nat) (w : World) (hT : Tabs w) (hr : GR w x A c B d) (h : Sz x) (hv : Lib.validD x.f2.data.toList = true) (hm : rightB (cnt x.f2) x.f3 x.f4 = true) :
    Calls Tryd.prog 11 #[.agg (gC x A c B d)] w (RetSeg x w) := by
  have KM := Lib.hid hm
  have HT := Lib.hid hT
  have HR := Lib.hid hr
  have HZ := Lib.hid h
  have HV := Lib.hid hv
  clear hT hr h hv
  clear hm
  go_enter Tryd.func11, Tryd.ntmps11
  go_upto_region 1 with (first | ((with_reducible refine gate_dst (N := 1) rfl ?_); refine box_event ?hg (N := 1) ?hd (cs := gC x A c B d) (t := 25) ?hr ?_; (case hd => rfl); (case hg => rfl); (case hr => first | (go_simp; done) | (go_simp; rfl)); intro gX hgX wX hxX hbX; have BX := Lib.hid hbX; have XX := Lib.hid hxX; clear hgX hxX hbX) | ((with_reducible refine gate_dst (N := 2) rfl ?_); refine box_event ?hg (N := 2) ?hd (cs := zC) (t := 31) ?hr ?_; (case hd => rfl); (case hg => rfl); (case hr => first | (go_simp; done) | (go_simp; rfl)); intro gR hgR wR hxR hbR; have BR := Lib.hid (below_step BX.out hbR); have GR_ := Lib.hid (show w.heap.size ≤ gR by rw [hgR]; exact BX.out.size); have XR := Lib.hid hxR; have X1 := Lib.hid (blk_below XX.out hbR); clear hgR hxR hbR))
  have a2 := blk_cell X1.out 2
  go_upto_region 2 with (first | (go_at_call 32; refine (new_rpS x.f2 _ HZ.out.s2 (HT.out.below BR.out) HV.out).mono ?_; rintro e w1 ⟨p, rfl, hi, hb⟩; have P1 := Lib.hid (show Le w gX gR x A c B d p x.f2 w1 from ⟨below_step BR.out hb, blk_below X1.out hb, blk_below XR.out hb, hi⟩); clear hi hb))
  clear a2
  have QS := Lib.hid (Q2.of P1.out.hX (Below.refl _ _))
  go_region_held3 (fun w' => Q2 w1 gX x A c B d w')
    (first | (with_reducible assumption) | (with_reducible exact HS5.out) | (with_reducible exact HS6.out) | (with_reducible exact Q2.of P1.out.hX (below_set (Q2.b HS6.out) (Nat.le_refl _))) | (with_reducible exact Q2.of P1.out.hX (below_set (below_set (Q2.b HS6.out) (Nat.le_refl _)) (Nat.le_refl _))) | (with_reducible exact Q2.of P1.out.hX (below_set (Q2.b HS6.out) (Q2.b HS5.out).size)) | (with_reducible exact Q2.of P1.out.hX (below_set (below_set (Q2.b HS6.out) (Q2.b HS5.out).size) (Q2.b HS5.out).size)) | (with_reducible exact Q2.next HS5.out (below_alloc (Below.refl _ _) _)) | (with_reducible exact Q2.next HS6.out (below_alloc (Below.refl _ _) _)) | exact QS.out.next (by (with_reducible repeat (first | exact Below.refl _ _ | apply pw_below_drewN | apply Below.drew | apply below_alloc))))
    (first
    | (go_at_call 33; (refine (clone67 A c x.f3 _ ?ca HR.out.c3 ?cl).mono ?_); (case ca => exact Kd.C_below HR.out.r3 (below_step P1.out.b (Q2.b (V := w1) (gX := gX) (x := x) (A := A) (c := c) (B := B) (d := d) (by assumption)))); (case cl => have := HZ.out.s3; omega); rintro e w5 ⟨v5, rfl, hr5, hb5⟩; obtain ⟨A5, c5, e5⟩ := Kd.R_slice hr5; subst e5; have HS5 := Lib.hid (Q2.next (V := w1) (gX := gX) (x := x) (A := A) (c := c) (B := B) (d := d) (by assumption) hb5); have R5 := Lib.hid hr5; (first | (refine genM (g := w1.heap.size) ?hq1 hb5 (fun M5 => ?_); (case hq1 => first | exact blk_newS rfl | exact blk_drew (blk_newS rfl))) | skip); clear hr5 hb5)
    | (go_at_call 34; (refine (clone70 B d x.f4 _ ?cb HR.out.c4 ?cm).mono ?_); (case cb => exact Kd.C_below HR.out.r4 (below_step P1.out.b (Q2.b (V := w1) (gX := gX) (x := x) (A := A) (c := c) (B := B) (d := d) (by assumption)))); (case cm => have := HZ.out.s4; omega); rintro e w6 ⟨v6, rfl, hr6, hb6⟩; obtain ⟨A6, c6, e6⟩ := Kd.R_slice hr6; subst e6; have HS6 := Lib.hid (Q2.next (V := w1) (gX := gX) (x := x) (A := A) (c := c) (B := B) (d := d) (by assumption) hb6); have R6 := Lib.hid hr6; have R5b := Lib.hid (Kd.R_below R5.out (below_step (by (with_reducible repeat (first | exact Below.refl _ _ | apply pw_below_drewN | apply Below.drew | apply below_alloc))) hb6)); (first | (refine genM (g := w1.heap.size) M5.out hb6 (fun M6 => ?_); have q0 := (blk_cell M6.out 0).trans rfl; have q1 := (blk_cell M6.out 1).trans rfl; have q2 := blk_frozen M6.out 0; have q3 := blk_frozen M6.out 1) | (refine genM (g := w5.heap.size) ?hq2 hb6 (fun M6 => ?_); (case hq2 => first | exact blk_newS rfl | exact blk_drew (blk_newS rfl)); have q0 := (blk_cell M6.out 0).trans rfl; have q1 := (blk_cell M6.out 1).trans rfl; have q2 := blk_frozen M6.out 0; have q3 := blk_frozen M6.out 1) | skip); clear hr6 hb6))
  all_goals
    go_upto_region 3 with (fail)
    first
      | (refine gen2 (φ := fun W => Code.wp _ _ _ _ W) (P := fun W => Lm w gX gR x A c B d p x.f2 w1.heap.size A5 c5 A6 c6 W) ⟨P1.out.next (below_set (below_set (Q2.b HS6.out) (Nat.le_refl _)) (Nat.le_refl _)), by simpa using blk_set (blk_set M6.out 0 (.slice A5 x.f3.length c5)) 1 (.slice A6 x.f4.length c6), tr_set2 (TR.of R5b.out R6.out) M6.out _ _⟩ ?_; clear q0 q1 q2 q3 M6; generalize w1.heap.size = gM)
      | (refine gen2 (φ := fun W => Code.wp _ _ _ _ W) (P := fun W => Lm w gX gR x A c B d p x.f2 w5.heap.size A5 c5 A6 c6 W) ⟨P1.out.next (below_set (below_set (Q2.b HS6.out) (Q2.b HS5.out).size) (Q2.b HS5.out).size), by simpa using blk_set (blk_set M6.out 0 (.slice A5 x.f3.length c5)) 1 (.slice A6 x.f4.length c6), tr_set2 (TR.of R5b.out R6.out) M6.out _ _⟩ ?_; clear q0 q1 q2 q3 M6; generalize w5.heap.size = gM)
      | (refine gen2 (φ := fun W => Code.wp _ _ _ _ W) (P := fun W => Lm w gX gR x A c B d p x.f2 w6.heap.size A5 c5 A6 c6 W) ⟨P1.out.next (below_alloc (Q2.b HS6.out) _), blk_newS rfl, (TR.of R5b.out R6.out).below (below_alloc (Below.refl _ _) _)⟩ ?_; generalize w6.heap.size = gM)
    rintro V hV
    have PV := Lib.hid hV
    have m0 := (blk_cell hV.hM 0).trans rfl
    have m1 := (blk_cell hV.hM 1).trans rfl
    clear hV P1 QS HS5 HS6 R5 R6 R5b
  all_goals
    have QN := Lib.hid (QM.of PV.out.hM (Below.refl _ _))
    clear m0 m1
    go_region_held3 (fun w' => QM V gM x A5 c5 A6 c6 w')
      (first | (with_reducible assumption) | (with_reducible exact HS7.out) | (with_reducible exact HS8.out) | exact QN.out.next (by (with_reducible repeat (first | exact Below.refl _ _ | apply pw_below_drewN | apply Below.drew | apply below_alloc))))
      (first
      | (go_at_call 36; (refine (len_rpb (p := p) (s := x.f2) ?ca HZ.out.s2).mono ?_); (case ca => exact PV.out.rp.below (QM.b (V := V) (gX := gM) (x := x) (A := A5) (c := c5) (B := A6) (d := c6) (by assumption))); rintro e w7 ⟨rfl, hb7⟩; have HS7 := Lib.hid (QM.next (V := V) (gX := gM) (x := x) (A := A5) (c := c5) (B := A6) (d := c6) (by assumption) hb7); clear hb7)
      | (go_at_call 35; (refine (right_true A5 c5 x.f3 A6 c6 x.f4 (cnt x.f2) _ ?r3 ?r4 HZ.out.s3 HZ.out.s4 KM.out).mono ?_); (case r3 => exact Kd.C_below PV.out.tr.r3 (QM.b (V := V) (gX := gM) (x := x) (A := A5) (c := c5) (B := A6) (d := c6) (by assumption))); (case r4 => exact Kd.C_below PV.out.tr.r4 (QM.b (V := V) (gX := gM) (x := x) (A := A5) (c := c5) (B := A6) (d := c6) (by assumption))); rintro e w8 ⟨rfl, hb8⟩; have HS8 := Lib.hid (QM.next (V := V) (gX := gM) (x := x) (A := A5) (c := c5) (B := A6) (d := c6) (by assumption) hb8); clear hb8))
    all_goals
      have P8 := Lib.hid (PV.out.next (QM.b HS8.out))
      clear QN HS7 HS8
      have r0 := (blk_cell P8.out.hR 0).trans rfl
      have f0 := blk_frozen P8.out.hR 0
      have r1 := (blk_cell P8.out.hR 1).trans rfl
      have f1 := blk_frozen P8.out.hR 1
      have r2 := (blk_cell P8.out.hR 2).trans rfl
      have f2 := blk_frozen P8.out.hR 2
      have r3 := (blk_cell P8.out.hR 3).trans rfl
      have f3 := blk_frozen P8.out.hR 3
      have r4 := (blk_cell P8.out.hR 4).trans rfl
      have f4 := blk_frozen P8.out.hR 4
      have x0_ := (blk_cell P8.out.hX 0).trans rfl
      have x1_ := (blk_cell P8.out.hX 1).trans rfl
      have m0 := (blk_cell P8.out.hM 0).trans rfl
      have m1 := (blk_cell P8.out.hM 1).trans rfl
      go_wp2
      have S5 := sp_set (sp_set (sp_set (sp_set (sp_set (show SP w8 x p A5 c5 A6 c6 ∧ w8.heap[gR]? = some (.cells zC 31 (0, 0)) from ⟨⟨P8.out.tr, P8.out.rp⟩, P8.out.hR⟩) 0 (.int .i64 x.f0)) 1 (.int .i64 x.f1)) 2 (.pointer p)) 3 (.slice A5 x.f3.length c5)) 4 (.slice A6 x.f4.length c6)
      refine bodyPost_ret (results_ct rfl _ _ gR 31 (sgC x p A5 c5 A6 c6) (0, 0) _ rfl (by simpa using S5.2) Tryd.underlying31 rfl (by kernel_rfl)) rfl ?_
      exact ⟨p, A5, c5, A6, c6, rfl, S5.1, below_set (below_set (below_set (below_set (below_set P8.out.b GR_.out) GR_.out) GR_.out) GR_.out) GR_.out⟩
theorem segLoad_good2 (x : G) (A : Option Addr) (c : Nat) (B : Option Addr) (d : Nat) (w : World) (hT : Tabs w) (hr : GR w x A c B d) (h : Sz x) (hv : okB x = true) :
    Calls Tryd.prog 11 #[.agg (gC x A c B d)] w (RetSeg x w) :=
  load_right x A c B d w hT hr h (okB_true hv).1 (okB_true hv).2
end Go.Proofs.YtjphmebhofkhcaaDoor.Seg
/- Contracts of slices.Clone, slices.IndexFunc and slices.DeleteFunc at spans and at sites: what they hand back, in new or in their own memory. Conditions: sizes below 2^47 bytes. -/
namespace Go.Proofs.YtjphmebhofkhcaaDoor.Dr
open Go.RowKit Go.Proofs.YtjphmebhofkhcaaDoorOwn Go.Proofs.YtjphmebhofkhcaaDoorPl Go.Proofs.YtjphmebhofkhcaaDoorW.PrintWords Go.Proofs.YtjphmebhofkhcaaDoorW.PrintLast Go.Proofs.YtjphmebhofkhcaaDoorW.PrintMore Go.Proofs.YtjphmebhofkhcaaDoor.PSegAll
set_option linter.unusedVariables false
set_option linter.unusedSimpArgs false
theorem k67_M_of_K {w : World} {base : Nat} {ok : Nat → Prop} (x : S67) (cs : List Value) (h : k67.K w x cs) : k67.M w base ok x cs := by
  obtain rfl := k67_open h
  exact k67_mkM _ _ _ _
set_option maxHeartbeats 800000 in
set_option maxRecDepth 100000 in
theorem clone67 (A : Option Addr) (c : Nat) (xs : List S67) (w : World) (hr : Kd.C k67 w A xs.length xs) (hc : xs.length ≤ c) (hl : xs.length * 24 ≤ 140737488355328) :
    Calls Tryd.prog 33 #[.slice A xs.length c] w fun e w' => ∃ v, e = .returned v ∧ Kd.R k67 67 w' w.heap.size (fun _ => True) v xs ∧ Below w.heap.size w w' := by
  have qn : ∀ (w : World) (a : Option Addr) (n c : Nat), (binOp .eql 22 (.slice a n c) (.slice none 0 0)).run Tryd.prog w = .ok (.bool a.isNone) w := fun w a n c => Lib.run_eql_slice_nil w _ _ a n c 0 0 Tryd.underlying22
  have HR := Lib.hid hr
  have HC := Lib.hid hc
  have HL := Lib.hid hl
  cases A with
  | none =>
    have hx : xs = [] := by
      rcases Nat.eq_zero_or_pos xs.length with h0 | h0
      · exact List.length_eq_zero_iff.1 h0
      · obtain ⟨_, e, _⟩ := hr.2.2 h0
        cases e
    clear hr hc hl
    go_enter Tryd.func33, Tryd.ntmps33
    go_wp2
    go_ret
    subst hx
    exact ⟨_, rfl, Kd.R_nil _ _ _ _ _, Below.refl _ _⟩
  | some ad =>
    clear hr hc hl
    go_enter Tryd.func33, Tryd.ntmps33
    go_wp2_with (first
      | ((with_reducible refine gate_dst (N := 5) rfl ?_)
         refine Kd.R_lit k67 _ 67 ?hg (N := 5) ?hd (xs := ([] : List S67)) (inner := []) (ok := fun _ => True) (okp := fun _ => True) ?hr ?hp (fun _ hk => hk) trivial (Below.refl _ _) (Nat.le_refl _) (by simp) ?_
         (case hd => rfl); (case hg => rfl); (case hr => first | (go_simp; done) | (go_simp; rfl)); (case hp => exact Reps.none _ _)
         intro v1 w1 HO HB hg hat; have HO1 := Lib.hid HO; have HB1 := Lib.hid HB; clear HO HB hg hat)
      | ((with_reducible refine gate_dst (N := 7) rfl ?_)
         refine Kd.R_append_rows k67 _ ?hg (.tmp 5) (.tmp 6) 22 67 (.agg #[.int .i64 0, .int .i64 0, .int .i64 0]) 24 rfl Tryd.underlying22 info67 rfl (by decide) (by decide) _ [] xs (some ad) xs.length c (fun _ => True) (fun k => some k ≠ v1.ownBlock) rfl rfl HO1.out (Kd.C_below HR.out HB1.out) (fun x cs h => k67_M_of_K x cs h) (fun _ h => ⟨trivial, h⟩) (fun _ _ => trivial) HB1.out (HB1.out.size) (by have := HL.out; simpa using this) ?_
         (case hg => rfl)
         intro v2 w2 HO HB hg hat; have HO2 := Lib.hid HO; have HB2 := Lib.hid HB; clear HO HB hg hat))
    go_ret
    exact ⟨_, rfl, HO2.out, HB2.out⟩
/-- What is asked of a predicate on spans: in every later world it answers p and lays only new blocks. -/
def Pred67 (g : Nat) (lb : Array Value) (p : S67 → Bool) (w : World) : Prop :=
  ∀ (W : World) (x : S67), Below w.heap.size w W → Calls Tryd.prog g (#[.agg #[.int .i64 x.f0, .int .i64 x.f1, .int .i64 x.f2]] ++ lb) W fun e w' => e = .returned (.bool (p x)) ∧ Below W.heap.size W w'
/-- The first index of which p holds, from j on; -1. -/
def idx67 (p : S67 → Bool) : List S67 → Int → Int
  | [], _ => -1
  | x :: r, j => if p x then j else idx67 p r (j + 1)
theorem drop_at67 {xs : List S67} {j : Nat} (h : j < xs.length) : xs.drop j = rd_T67 xs j :: xs.drop (j + 1) := by
  rw [List.drop_eq_getElem_cons h]
  unfold rd_T67
  rw [List.getD_eq_getElem?_getD, Int.toNat_natCast, List.getElem?_eq_getElem h]
  rfl
set_option maxHeartbeats 800000 in
set_option maxRecDepth 100000 in
theorem index67 (A : Option Addr) (c : Nat) (xs : List S67) (g : Nat) (lb : Array Value) (p : S67 → Bool) (w : World) (eg : ∀ args w, (callFunc g args).run Tryd.prog w = .ok (.enter g args) w) (hp : Pred67 g lb p w) (hr : Kd.C k67 w A xs.length xs) :
    Calls Tryd.prog 108 #[.slice A xs.length c, .func (.func g) #[] lb] w fun e w' => e = .returned (.int .i64 (idx67 p xs 0)) ∧ Below w.heap.size w w' := by
  have HR := Lib.hid hr
  have HM := Lib.hid hr.2.1
  have HP := Lib.hid hp
  clear hr hp
  go_enter Tryd.func108, Tryd.ntmps108
  go_wp2
  go_loopg [5, 8] xs.length (fun gg _ s8 wr => ∃ kk : Nat, kk ≤ xs.length ∧ xs.length - kk ≤ gg ∧ s8 = .int .i64 kk ∧ Aside (Below w.heap.size w wr) ∧ Aside (idx67 p xs 0 = idx67 p (xs.drop kk) kk))
  case atStart => exact ⟨0, Nat.zero_le _, by omega, rfl, Below.refl _ w, rfl⟩
  case round =>
    obtain ⟨kk, hkk, hg, rfl, BW, A1⟩ := hrel
    have hbig := HM.out
    by_cases hlt : kk < xs.length
    · have hltz : (kk : Int) < (xs.length : Int) := by omega
      obtain ⟨ad, e0, hx0, hx1, hx2⟩ := at_T67 (Kd.C_below HR.out BW.out) kk (by omega) hltz
      cases e0
      rw [Int.toNat_natCast] at hx0 hx1 hx2
      have hcall := Lib.hid (HP.out wr (rd_T67 xs kk) BW.out)
      have D := Lib.hid (drop_at67 hlt)
      cases hq : p (rd_T67 xs kk) with
      | true =>
        have Q := Lib.hid hq
        rw [hq] at hcall
        clear hq
        go_wp2_with ((with_reducible refine hcall.out.mono ?_); rintro e w' ⟨rfl, hb'⟩)
        go_ret
        refine ⟨?_, below_then BW.out BW.out.size hb'⟩
        rw [A1.out, D.out]
        simp only [idx67, Q.out, if_true]
        rfl
      | false =>
        have Q := Lib.hid hq
        rw [hq] at hcall
        clear hq
        go_wp2_with ((with_reducible refine hcall.out.mono ?_); rintro e w' ⟨rfl, hb'⟩)
        go_roundg (xs.length - (kk + 1))
        case measure => omega
        case rel => 
          refine ⟨kk + 1, by omega, by omega, by go_num, below_then BW.out BW.out.size hb', (show Aside _ from ?_)⟩
          show idx67 p xs 0 = idx67 p (xs.drop (kk + 1)) ((kk + 1 : Nat) : Int)
          rw [A1.out, D.out]
          simp only [idx67, Q.out, Bool.false_eq_true, if_false]
          rfl
    · have hltz : ¬ (kk : Int) < (xs.length : Int) := by omega
      go_wp2
      go_ret
      refine ⟨?_, BW.out⟩
      rw [A1.out, List.drop_of_length_le (by omega)]
      rfl

theorem idx67_miss (p : S67 → Bool) : ∀ (xs : List S67) (j : Int), 0 ≤ j → idx67 p xs j = -1 → ∀ x ∈ xs, p x = false
  | [], _, _, _ => by simp
  | x :: r, j, hj, h => by
    unfold idx67 at h
    split at h
    · omega
    · rename_i hp
      intro y hy
      rcases List.mem_cons.1 hy with rfl | hy
      · simpa using hp
      · exact idx67_miss p r (j + 1) (by omega) h y hy
theorem idx67_hit (p : S67 → Bool) : ∀ (xs : List S67) (j : Int), 0 ≤ j → idx67 p xs j ≠ -1 → ∃ i : Nat, idx67 p xs j = j + i ∧ i < xs.length ∧ (∀ x ∈ xs.take i, p x = false) ∧ (∀ x, xs[i]? = some x → p x = true)
  | [], _, _, h => absurd rfl h
  | x :: r, j, hj, h => by
    unfold idx67 at h ⊢
    split
    · rename_i hp
      exact ⟨0, by simp, by simp, by simp, by simp [hp]⟩
    · rename_i hp
      rw [if_neg hp] at h
      obtain ⟨i, h1, h2, h3, h4⟩ := idx67_hit p r (j + 1) (by omega) h
      refine ⟨i + 1, by rw [h1]; omega, by simp; omega, ?_, ?_⟩
      · intro y hy
        rw [List.take_succ_cons] at hy
        rcases List.mem_cons.1 hy with rfl | hy
        · simpa using hp
        · exact h3 y hy
      · intro y hy
        exact h4 y (by simpa using hy)
/-- In every world in which I holds. -/
abbrev PredI67 (g : Nat) (lb : Array Value) (p : S67 → Bool) (I : World → Prop) : Prop :=
  ∀ (W : World) (x : S67), I W → Calls Tryd.prog g (#[.agg #[.int .i64 x.f0, .int .i64 x.f1, .int .i64 x.f2]] ++ lb) W fun e w' => e = .returned (.bool (p x)) ∧ Below W.heap.size W w'
def DelPost67 (w : World) (base : Nat) (ok : Nat → Prop) (v : Value) (ys : List S67) (e : Ending) (w' : World) : Prop :=
  ∃ v', e = .returned v' ∧ Kd.R k67 67 w' base ok v' ys ∧ w.grownBy w' v.ownBlock
theorem take_succ_at67 {xs : List S67} {j : Nat} (h : j < xs.length) : xs.take (j + 1) = xs.take j ++ [rd_T67 xs j] := by
  rw [List.take_succ_eq_append_getElem h]
  unfold rd_T67
  rw [List.getD_eq_getElem?_getD, Int.toNat_natCast, List.getElem?_eq_getElem h]
  rfl
theorem rd_drop67 {cur xs : List S67} {j : Nat} (h : cur.drop j = xs.drop j) (hj : j < xs.length) : rd_T67 cur j = rd_T67 xs j := by
  unfold rd_T67
  rw [List.getD_eq_getElem?_getD, List.getD_eq_getElem?_getD, Int.toNat_natCast]
  have h1 : (cur.drop j)[0]? = (xs.drop j)[0]? := by rw [h]
  rw [List.getElem?_drop, List.getElem?_drop, Nat.add_zero] at h1
  rw [h1]
theorem rowc67 {W : World} {base gr n c : Nat} {ok : Nat → Prop} {cur : List S67} (h : Kd.R k67 67 W base ok (.slice (some ⟨gr, 0, none⟩) n c) cur) (i : Nat) (h0 : (0 : Int) ≤ i) (hi : (i : Int) < (cur.length : Int)) :
    ∀ (j : Nat) (u : Value), [Value.int .i64 (rd_T67 cur i).f0, .int .i64 (rd_T67 cur i).f1, .int .i64 (rd_T67 cur i).f2][j]? = some u → W.cell? ⟨gr, (i : Int).toNat * k67.sz + j, none⟩ = some u := by
  obtain ⟨ad, e0, hx0, hx1, hx2⟩ := at_T67 (Kd.R_reads' h).2.2 i h0 hi
  cases e0
  rw [add_plain] at hx0 hx1 hx2
  intro j u hj
  match j, hj with
  | 0, hj => injection hj with hj; subst hj; exact hx0
  | 1, hj => injection hj with hj; subst hj; exact hx1
  | 2, hj => injection hj with hj; subst hj; exact hx2
set_option maxHeartbeats 1600000 in
set_option maxRecDepth 100000 in
theorem delete67 (v : Value) (xs : List S67) (g : Nat) (lb : Array Value) (p : S67 → Bool) (I : World → Prop) (base : Nat) (ok : Nat → Prop) (w : World) (eg : ∀ args w, (callFunc g args).run Tryd.prog w = .ok (.enter g args) w)
    (hp : PredI67 g lb p I) (hI : I w) (hIb : ∀ W W', I W → W.grownBy W' v.ownBlock → I W') (HO : Kd.R k67 67 w base ok v xs) :
    Calls Tryd.prog 96 #[v, .func (.func g) #[] lb] w (DelPost67 w base ok v (xs.filter fun x => !p x)) := by
  obtain ⟨A, c, rfl⟩ := Kd.R_slice HO
  have hC := Kd.R_reads' HO
  have HX := Lib.hid (index67 A c xs g lb p w eg (fun W x hb => hp W x (hIb _ _ hI (grown_of_below hb _))) hC.2.2)
  have HR := Lib.hid HO
  have HP := Lib.hid hp
  have HI := Lib.hid hI
  have HIb := Lib.hid hIb
  have HM := Lib.hid hC.2.2.2.1
  have HC := Lib.hid hC
  clear HO hC hp hI hIb
  by_cases hi : idx67 p xs 0 = -1
  · have hb : (idx67 p xs 0 == -1) = true := by simpa using hi
    have Hi := Lib.hid hi
    clear hi
    go_enter Tryd.func96, Tryd.ntmps96
    go_wp2_with ((with_reducible refine HX.out.mono ?_); rintro e w' ⟨rfl, hb'⟩; have HB := Lib.hid hb'; clear hb')
    go_ret
    refine ⟨_, rfl, ?_, grown_of_below HB.out _⟩
    rw [List.filter_eq_self.2 (fun x hx => by rw [idx67_miss p xs 0 (by omega) Hi.out x hx]; rfl)]
    exact Kd.R_below HR.out HB.out
  · obtain ⟨i0, hi0, hlt0, hnone, hsome⟩ := idx67_hit p xs 0 (by omega) hi
    rw [Int.zero_add] at hi0
    have hb : (idx67 p xs 0 == -1) = false := by simpa using hi
    obtain ⟨gr, cap, he, hbase, hgr, _⟩ := Kd.R_form HR.out (by omega)
    injection he with e1 e2 e3
    subst e1; subst e3
    rw [hi0] at HX hb
    have Hn := Lib.hid hnone
    have Hs := Lib.hid hsome
    clear hi hi0 hnone hsome e2
    have hbig := HM.out
    go_enter Tryd.func96, Tryd.ntmps96
    go_wp2_with ((with_reducible refine HX.out.mono ?_); rintro e w' ⟨rfl, hb'⟩; have HB := Lib.hid hb'; clear hb')
    go_loopg [5, 6] xs.length (fun gg s5 s6 wr => ∃ (i j : Nat) (cur : List S67), s5 = .int .i64 i ∧ s6 = .int .i64 j ∧ i < j ∧ j ≤ xs.length ∧ xs.length - j ≤ gg ∧ Aside (cur.length = xs.length) ∧ Aside (cur.take i = (xs.take j).filter fun x => !p x) ∧ Aside (cur.drop j = xs.drop j) ∧ Aside (Kd.R k67 67 wr base ok (.slice (some ⟨gr, 0, none⟩) xs.length c) cur) ∧ Aside (I wr) ∧ Aside (w.grownBy wr (some gr)))
    case atStart =>
      refine ⟨i0, i0 + 1, xs, rfl, by go_num, by omega, by omega, by omega, rfl, ?_, rfl, ?_, ?_, ?_⟩
      · show xs.take i0 = (xs.take (i0 + 1)).filter fun x => !p x
        rw [take_succ_at67 hlt0, List.filter_append, List.filter_eq_self.2 (fun x hx => by rw [Hn.out x hx]; rfl)]
        have hx : p (rd_T67 xs i0) = true := Hs.out _ (by unfold rd_T67; rw [List.getD_eq_getElem?_getD, Int.toNat_natCast, List.getElem?_eq_getElem hlt0]; rfl)
        simp [hx]
      · exact Kd.R_below HR.out HB.out
      · exact HIb.out _ _ HI.out (grown_of_below HB.out _)
      · exact grown_of_below HB.out _
    case round =>
      obtain ⟨i, j, cur, rfl, rfl, hij, hjn, hg, A1, A2, A3, A4, A5, A6⟩ := hrel
      by_cases hlt : j < xs.length
      · have hltz : (j : Int) < (xs.length : Int) := by omega
        obtain ⟨ad, e0, hx0, hx1, hx2⟩ := at_T67 (Kd.R_reads' A4.out).2.2 j (by omega) (by rw [A1.out]; exact hltz)
        cases e0
        rw [Int.toNat_natCast, add_plain] at hx0 hx1 hx2
        have hrd := Lib.hid (rd_drop67 A3.out hlt)
        have hts := Lib.hid (take_succ_at67 hlt)
        have hbnd : (i : Int) < (xs.length : Int) := by omega
        cases hq : p (rd_T67 cur j) with
        | true =>
          have Q := Lib.hid hq
          clear hq
          go_wp2_with ((with_reducible refine (HP.out _ (rd_T67 cur j) ?hI).mono ?_); (case hI => exact HIb.out _ _ A5.out (grown_of_below (below_alloc (Below.refl _ _) _) _)); rintro e w'' ⟨rfl, hb'⟩; rw [Q.out]; have HB2 := Lib.hid (below_then (below_alloc (Below.refl wr.heap.size wr) _) (by simp) hb'); clear hb')
          go_roundg (xs.length - (j + 1))
          case measure => omega
          case rel =>
            refine ⟨i, j + 1, cur, rfl, by go_num, by omega, by omega, by omega, A1.out, ?_, ?_, Kd.R_below A4.out HB2.out, HIb.out _ _ A5.out (grown_of_below HB2.out _), World.grownBy.trans A6.out (grown_of_below HB2.out _)⟩
            · show cur.take i = (xs.take (j + 1)).filter fun x => !p x
              rw [hts.out, List.filter_append, ← hrd.out, A2.out]
              simp [Q.out]
            · show cur.drop (j + 1) = xs.drop (j + 1)
              rw [← List.drop_drop, A3.out, List.drop_drop]
        | false =>
          have Q := Lib.hid hq
          clear hq
          go_wp2_with (first
            | ((with_reducible refine (HP.out _ (rd_T67 cur j) ?hI).mono ?_); (case hI => exact HIb.out _ _ A5.out (grown_of_below (below_alloc (Below.refl _ _) _) _)); rintro e w'' ⟨rfl, hb'⟩; rw [Q.out]; have HB2 := Lib.hid (below_then (below_alloc (Below.refl wr.heap.size wr) _) (by simp) hb')
               have hy0 : w''.cell? ⟨wr.heap.size, 0, none⟩ = some (.int .i64 (rd_T67 cur j).f0) := (hb'.cell (p := ⟨wr.heap.size, 0, none⟩) (by simp)).trans (by go_simp)
               have hy1 : w''.cell? ⟨wr.heap.size, 1, none⟩ = some (.int .i64 (rd_T67 cur j).f1) := (hb'.cell (p := ⟨wr.heap.size, 1, none⟩) (by simp)).trans (by go_simp)
               have hy2 : w''.cell? ⟨wr.heap.size, 2, none⟩ = some (.int .i64 (rd_T67 cur j).f2) := (hb'.cell (p := ⟨wr.heap.size, 2, none⟩) (by simp)).trans (by go_simp)
               clear hb')
            | (refine Kd.R_store k67 base ?hN ?hg 67 (.tmp 33) (.tmp 32) rfl 67 i 0 cur (rd_T67 cur j) (.agg #[.int .i64 (rd_T67 cur j).f0, .int .i64 (rd_T67 cur j).f1, .int .i64 (rd_T67 cur j).f2]) [Value.int .i64 (rd_T67 cur j).f0, .int .i64 (rd_T67 cur j).f1, .int .i64 (rd_T67 cur j).f2] [Value.int .i64 (rd_T67 cur i).f0, .int .i64 (rd_T67 cur i).f1, .int .i64 (rd_T67 cur i).f2] ok (fun k => ok k ∧ k ≠ gr) rfl rfl rfl rfl (by kernel_rfl) (k67.K_one (k67_mk w'' (rd_T67 cur j))) (Kd.R_below A4.out HB2.out) (by omega) hbnd rfl ?hcc (show (3 : Nat) ≤ 3 from Nat.le_refl _) (k67_mkM _ _ _ _) (fun _ h => h) (Below.refl _ _) ?_
               (case hN => rfl); (case hg => rfl)
               (case hcc => exact rowc67 (Kd.R_below A4.out HB2.out) i (by omega) (by rw [A1.out]; exact hbnd))
               intro w3 hR3 _ hg3; have HR3 := Lib.hid hR3; have HG3 := Lib.hid hg3; clear hR3 hg3))
          go_roundg (xs.length - (j + 1))
          case measure => omega
          case rel =>
            refine ⟨i + 1, j + 1, cur.set i (rd_T67 cur j), by go_num, by go_num, by omega, by omega, by omega, ?_, ?_, ?_, ?_, ?_, ?_⟩
            · show (cur.set i _).length = _
              rw [List.length_set]; exact A1.out
            · show (cur.set i (rd_T67 cur j)).take (i + 1) = (xs.take (j + 1)).filter fun x => !p x
              have hcl := A1.out
              rw [hts.out, List.filter_append, ← hrd.out, ← A2.out, List.take_succ_eq_append_getElem (by rw [List.length_set]; omega), List.take_set_of_le (Nat.le_refl _)]
              simp [Q.out]
            · show (cur.set i _).drop (j + 1) = xs.drop (j + 1)
              rw [List.drop_set_of_lt (by omega), ← List.drop_drop, A3.out, List.drop_drop]
            · exact HR3.out
            · exact HIb.out _ _ (HIb.out _ _ A5.out (grown_of_below HB2.out _)) HG3.out
            · exact World.grownBy.trans A6.out (World.grownBy.trans (grown_of_below HB2.out _) HG3.out)
      · have hltz : ¬ (j : Int) < (xs.length : Int) := by omega
        obtain rfl : j = xs.length := by omega
        have hil : i ≤ xs.length := by omega
        have HC2 := Lib.hid (Kd.R_reads' A4.out)
        have hic : i ≤ c := Nat.le_trans hil HC2.out.2.1
        by_cases hci : c = i
        · subst hci
          obtain ⟨w1, hrun, hR1, hg1, _⟩ := run_clear_rows k67 22 67 0 (.agg #[.int .i64 0, .int .i64 0, .int .i64 0]) Tryd.underlying22 (fun w => by kernel_rfl) rfl (by decide) A4.out hil (A := some ⟨gr, 0, none⟩) (c2 := 0) (fun h => absurd h (by have := HC2.out.2.1; omega)) (Below.refl base wr)
          have HG1 := Lib.hid hg1
          have HR1 := Lib.hid hR1
          clear hg1 hR1
          go_wp2
          go_ret
          refine ⟨_, rfl, ?_, World.grownBy.trans A6.out HG1.out⟩
          have e := A2.out
          rw [List.take_length] at e
          rw [← e]
          exact HR1.out
        · obtain ⟨w1, hrun, hR1, hg1, _⟩ := run_clear_rows k67 22 67 0 (.agg #[.int .i64 0, .int .i64 0, .int .i64 0]) Tryd.underlying22 (fun w => by kernel_rfl) rfl (by decide) A4.out hil (A := some ⟨gr, i * 3, none⟩) (c2 := c - i) (fun _ => rfl) (Below.refl base wr)
          have HG1 := Lib.hid hg1
          have HR1 := Lib.hid hR1
          clear hg1 hR1
          go_wp2
          go_ret
          refine ⟨_, rfl, ?_, World.grownBy.trans A6.out HG1.out⟩
          have e := A2.out
          rw [List.take_length] at e
          rw [← e]
          exact HR1.out
theorem k70_M_of_K {w : World} {base : Nat} {ok : Nat → Prop} (x : S70) (cs : List Value) (h : k70.K w x cs) : k70.M w base ok x cs := by
  obtain rfl := k70_open h
  exact k70_mkM _ _ _ _
set_option maxHeartbeats 800000 in
set_option maxRecDepth 100000 in
theorem clone70 (A : Option Addr) (c : Nat) (xs : List S70) (w : World) (hr : Kd.C k70 w A xs.length xs) (hc : xs.length ≤ c) (hl : xs.length * 16 ≤ 140737488355328) :
    Calls Tryd.prog 34 #[.slice A xs.length c] w fun e w' => ∃ v, e = .returned v ∧ Kd.R k70 70 w' w.heap.size (fun _ => True) v xs ∧ Below w.heap.size w w' := by
  have qn : ∀ (w : World) (a : Option Addr) (n c : Nat), (binOp .eql 23 (.slice a n c) (.slice none 0 0)).run Tryd.prog w = .ok (.bool a.isNone) w := fun w a n c => Lib.run_eql_slice_nil w _ _ a n c 0 0 Tryd.underlying23
  have HR := Lib.hid hr
  have HC := Lib.hid hc
  have HL := Lib.hid hl
  cases A with
  | none =>
    have hx : xs = [] := by
      rcases Nat.eq_zero_or_pos xs.length with h0 | h0
      · exact List.length_eq_zero_iff.1 h0
      · obtain ⟨_, e, _⟩ := hr.2.2 h0
        cases e
    clear hr hc hl
    go_enter Tryd.func34, Tryd.ntmps34
    go_wp2
    go_ret
    subst hx
    exact ⟨_, rfl, Kd.R_nil _ _ _ _ _, Below.refl _ _⟩
  | some ad =>
    clear hr hc hl
    go_enter Tryd.func34, Tryd.ntmps34
    go_wp2_with (first
      | ((with_reducible refine gate_dst (N := 5) rfl ?_)
         refine Kd.R_lit k70 _ 70 ?hg (N := 5) ?hd (xs := ([] : List S70)) (inner := []) (ok := fun _ => True) (okp := fun _ => True) ?hr ?hp (fun _ hk => hk) trivial (Below.refl _ _) (Nat.le_refl _) (by simp) ?_
         (case hd => rfl); (case hg => rfl); (case hr => first | (go_simp; done) | (go_simp; rfl)); (case hp => exact Reps.none _ _)
         intro v1 w1 HO HB hg hat; have HO1 := Lib.hid HO; have HB1 := Lib.hid HB; clear HO HB hg hat)
      | ((with_reducible refine gate_dst (N := 7) rfl ?_)
         refine Kd.R_append_rows k70 _ ?hg (.tmp 5) (.tmp 6) 23 70 (.agg #[.int .i64 0, .int .i64 0]) 16 rfl Tryd.underlying23 info70 rfl (by decide) (by decide) _ [] xs (some ad) xs.length c (fun _ => True) (fun k => some k ≠ v1.ownBlock) rfl rfl HO1.out (Kd.C_below HR.out HB1.out) (fun x cs h => k70_M_of_K x cs h) (fun _ h => ⟨trivial, h⟩) (fun _ _ => trivial) HB1.out (HB1.out.size) (by have := HL.out; simpa using this) ?_
         (case hg => rfl)
         intro v2 w2 HO HB hg hat; have HO2 := Lib.hid HO; have HB2 := Lib.hid HB; clear HO HB hg hat))
    go_ret
    exact ⟨_, rfl, HO2.out, HB2.out⟩
/-- What is asked of a predicate on spans: in every later world it answers p and lays only new blocks. -/
def Pred70 (g : Nat) (lb : Array Value) (p : S70 → Bool) (w : World) : Prop :=
  ∀ (W : World) (x : S70), Below w.heap.size w W → Calls Tryd.prog g (#[.agg #[.int .i64 x.f0, .int .i64 x.f1]] ++ lb) W fun e w' => e = .returned (.bool (p x)) ∧ Below W.heap.size W w'
/-- The first index of which p holds, from j on; -1. -/
def idx70 (p : S70 → Bool) : List S70 → Int → Int
  | [], _ => -1
  | x :: r, j => if p x then j else idx70 p r (j + 1)
theorem drop_at70 {xs : List S70} {j : Nat} (h : j < xs.length) : xs.drop j = rd_T70 xs j :: xs.drop (j + 1) := by
  rw [List.drop_eq_getElem_cons h]
  unfold rd_T70
  rw [List.getD_eq_getElem?_getD, Int.toNat_natCast, List.getElem?_eq_getElem h]
  rfl
set_option maxHeartbeats 800000 in
set_option maxRecDepth 100000 in
theorem index70 (A : Option Addr) (c : Nat) (xs : List S70) (g : Nat) (lb : Array Value) (p : S70 → Bool) (w : World) (eg : ∀ args w, (callFunc g args).run Tryd.prog w = .ok (.enter g args) w) (hp : Pred70 g lb p w) (hr : Kd.C k70 w A xs.length xs) :
    Calls Tryd.prog 109 #[.slice A xs.length c, .func (.func g) #[] lb] w fun e w' => e = .returned (.int .i64 (idx70 p xs 0)) ∧ Below w.heap.size w w' := by
  have HR := Lib.hid hr
  have HM := Lib.hid hr.2.1
  have HP := Lib.hid hp
  clear hr hp
  go_enter Tryd.func109, Tryd.ntmps109
  go_wp2
  go_loopg [5, 8] xs.length (fun gg _ s8 wr => ∃ kk : Nat, kk ≤ xs.length ∧ xs.length - kk ≤ gg ∧ s8 = .int .i64 kk ∧ Aside (Below w.heap.size w wr) ∧ Aside (idx70 p xs 0 = idx70 p (xs.drop kk) kk))
  case atStart => exact ⟨0, Nat.zero_le _, by omega, rfl, Below.refl _ w, rfl⟩
  case round =>
    obtain ⟨kk, hkk, hg, rfl, BW, A1⟩ := hrel
    have hbig := HM.out
    by_cases hlt : kk < xs.length
    · have hltz : (kk : Int) < (xs.length : Int) := by omega
      obtain ⟨ad, e0, hx0, hx1⟩ := at_T70 (Kd.C_below HR.out BW.out) kk (by omega) hltz
      cases e0
      rw [Int.toNat_natCast] at hx0 hx1
      have hcall := Lib.hid (HP.out wr (rd_T70 xs kk) BW.out)
      have D := Lib.hid (drop_at70 hlt)
      cases hq : p (rd_T70 xs kk) with
      | true =>
        have Q := Lib.hid hq
        rw [hq] at hcall
        clear hq
        go_wp2_with ((with_reducible refine hcall.out.mono ?_); rintro e w' ⟨rfl, hb'⟩)
        go_ret
        refine ⟨?_, below_then BW.out BW.out.size hb'⟩
        rw [A1.out, D.out]
        simp only [idx70, Q.out, if_true]
        rfl
      | false =>
        have Q := Lib.hid hq
        rw [hq] at hcall
        clear hq
        go_wp2_with ((with_reducible refine hcall.out.mono ?_); rintro e w' ⟨rfl, hb'⟩)
        go_roundg (xs.length - (kk + 1))
        case measure => omega
        case rel => 
          refine ⟨kk + 1, by omega, by omega, by go_num, below_then BW.out BW.out.size hb', (show Aside _ from ?_)⟩
          show idx70 p xs 0 = idx70 p (xs.drop (kk + 1)) ((kk + 1 : Nat) : Int)
          rw [A1.out, D.out]
          simp only [idx70, Q.out, Bool.false_eq_true, if_false]
          rfl
    · have hltz : ¬ (kk : Int) < (xs.length : Int) := by omega
      go_wp2
      go_ret
      refine ⟨?_, BW.out⟩
      rw [A1.out, List.drop_of_length_le (by omega)]
      rfl

theorem idx70_miss (p : S70 → Bool) : ∀ (xs : List S70) (j : Int), 0 ≤ j → idx70 p xs j = -1 → ∀ x ∈ xs, p x = false
  | [], _, _, _ => by simp
  | x :: r, j, hj, h => by
    unfold idx70 at h
    split at h
    · omega
    · rename_i hp
      intro y hy
      rcases List.mem_cons.1 hy with rfl | hy
      · simpa using hp
      · exact idx70_miss p r (j + 1) (by omega) h y hy
theorem idx70_hit (p : S70 → Bool) : ∀ (xs : List S70) (j : Int), 0 ≤ j → idx70 p xs j ≠ -1 → ∃ i : Nat, idx70 p xs j = j + i ∧ i < xs.length ∧ (∀ x ∈ xs.take i, p x = false) ∧ (∀ x, xs[i]? = some x → p x = true)
  | [], _, _, h => absurd rfl h
  | x :: r, j, hj, h => by
    unfold idx70 at h ⊢
    split
    · rename_i hp
      exact ⟨0, by simp, by simp, by simp, by simp [hp]⟩
    · rename_i hp
      rw [if_neg hp] at h
      obtain ⟨i, h1, h2, h3, h4⟩ := idx70_hit p r (j + 1) (by omega) h
      refine ⟨i + 1, by rw [h1]; omega, by simp; omega, ?_, ?_⟩
      · intro y hy
        rw [List.take_succ_cons] at hy
        rcases List.mem_cons.1 hy with rfl | hy
        · simpa using hp
        · exact h3 y hy
      · intro y hy
        exact h4 y (by simpa using hy)
/-- In every world in which I holds. -/
abbrev PredI70 (g : Nat) (lb : Array Value) (p : S70 → Bool) (I : World → Prop) : Prop :=
  ∀ (W : World) (x : S70), I W → Calls Tryd.prog g (#[.agg #[.int .i64 x.f0, .int .i64 x.f1]] ++ lb) W fun e w' => e = .returned (.bool (p x)) ∧ Below W.heap.size W w'
def DelPost70 (w : World) (base : Nat) (ok : Nat → Prop) (v : Value) (ys : List S70) (e : Ending) (w' : World) : Prop :=
  ∃ v', e = .returned v' ∧ Kd.R k70 70 w' base ok v' ys ∧ w.grownBy w' v.ownBlock
theorem take_succ_at70 {xs : List S70} {j : Nat} (h : j < xs.length) : xs.take (j + 1) = xs.take j ++ [rd_T70 xs j] := by
  rw [List.take_succ_eq_append_getElem h]
  unfold rd_T70
  rw [List.getD_eq_getElem?_getD, Int.toNat_natCast, List.getElem?_eq_getElem h]
  rfl
theorem rd_drop70 {cur xs : List S70} {j : Nat} (h : cur.drop j = xs.drop j) (hj : j < xs.length) : rd_T70 cur j = rd_T70 xs j := by
  unfold rd_T70
  rw [List.getD_eq_getElem?_getD, List.getD_eq_getElem?_getD, Int.toNat_natCast]
  have h1 : (cur.drop j)[0]? = (xs.drop j)[0]? := by rw [h]
  rw [List.getElem?_drop, List.getElem?_drop, Nat.add_zero] at h1
  rw [h1]
theorem rowc70 {W : World} {base gr n c : Nat} {ok : Nat → Prop} {cur : List S70} (h : Kd.R k70 70 W base ok (.slice (some ⟨gr, 0, none⟩) n c) cur) (i : Nat) (h0 : (0 : Int) ≤ i) (hi : (i : Int) < (cur.length : Int)) :
    ∀ (j : Nat) (u : Value), [Value.int .i64 (rd_T70 cur i).f0, .int .i64 (rd_T70 cur i).f1][j]? = some u → W.cell? ⟨gr, (i : Int).toNat * k70.sz + j, none⟩ = some u := by
  obtain ⟨ad, e0, hx0, hx1⟩ := at_T70 (Kd.R_reads' h).2.2 i h0 hi
  cases e0
  rw [add_plain] at hx0 hx1
  intro j u hj
  match j, hj with
  | 0, hj => injection hj with hj; subst hj; exact hx0
  | 1, hj => injection hj with hj; subst hj; exact hx1
set_option maxHeartbeats 1600000 in
set_option maxRecDepth 100000 in
theorem delete70 (v : Value) (xs : List S70) (g : Nat) (lb : Array Value) (p : S70 → Bool) (I : World → Prop) (base : Nat) (ok : Nat → Prop) (w : World) (eg : ∀ args w, (callFunc g args).run Tryd.prog w = .ok (.enter g args) w)
    (hp : PredI70 g lb p I) (hI : I w) (hIb : ∀ W W', I W → W.grownBy W' v.ownBlock → I W') (HO : Kd.R k70 70 w base ok v xs) :
    Calls Tryd.prog 98 #[v, .func (.func g) #[] lb] w (DelPost70 w base ok v (xs.filter fun x => !p x)) := by
  obtain ⟨A, c, rfl⟩ := Kd.R_slice HO
  have hC := Kd.R_reads' HO
  have HX := Lib.hid (index70 A c xs g lb p w eg (fun W x hb => hp W x (hIb _ _ hI (grown_of_below hb _))) hC.2.2)
  have HR := Lib.hid HO
  have HP := Lib.hid hp
  have HI := Lib.hid hI
  have HIb := Lib.hid hIb
  have HM := Lib.hid hC.2.2.2.1
  have HC := Lib.hid hC
  clear HO hC hp hI hIb
  by_cases hi : idx70 p xs 0 = -1
  · have hb : (idx70 p xs 0 == -1) = true := by simpa using hi
    have Hi := Lib.hid hi
    clear hi
    go_enter Tryd.func98, Tryd.ntmps98
    go_wp2_with ((with_reducible refine HX.out.mono ?_); rintro e w' ⟨rfl, hb'⟩; have HB := Lib.hid hb'; clear hb')
    go_ret
    refine ⟨_, rfl, ?_, grown_of_below HB.out _⟩
    rw [List.filter_eq_self.2 (fun x hx => by rw [idx70_miss p xs 0 (by omega) Hi.out x hx]; rfl)]
    exact Kd.R_below HR.out HB.out
  · obtain ⟨i0, hi0, hlt0, hnone, hsome⟩ := idx70_hit p xs 0 (by omega) hi
    rw [Int.zero_add] at hi0
    have hb : (idx70 p xs 0 == -1) = false := by simpa using hi
    obtain ⟨gr, cap, he, hbase, hgr, _⟩ := Kd.R_form HR.out (by omega)
    injection he with e1 e2 e3
    subst e1; subst e3
    rw [hi0] at HX hb
    have Hn := Lib.hid hnone
    have Hs := Lib.hid hsome
    clear hi hi0 hnone hsome e2
    have hbig := HM.out
    go_enter Tryd.func98, Tryd.ntmps98
    go_wp2_with ((with_reducible refine HX.out.mono ?_); rintro e w' ⟨rfl, hb'⟩; have HB := Lib.hid hb'; clear hb')
    go_loopg [5, 6] xs.length (fun gg s5 s6 wr => ∃ (i j : Nat) (cur : List S70), s5 = .int .i64 i ∧ s6 = .int .i64 j ∧ i < j ∧ j ≤ xs.length ∧ xs.length - j ≤ gg ∧ Aside (cur.length = xs.length) ∧ Aside (cur.take i = (xs.take j).filter fun x => !p x) ∧ Aside (cur.drop j = xs.drop j) ∧ Aside (Kd.R k70 70 wr base ok (.slice (some ⟨gr, 0, none⟩) xs.length c) cur) ∧ Aside (I wr) ∧ Aside (w.grownBy wr (some gr)))
    case atStart =>
      refine ⟨i0, i0 + 1, xs, rfl, by go_num, by omega, by omega, by omega, rfl, ?_, rfl, ?_, ?_, ?_⟩
      · show xs.take i0 = (xs.take (i0 + 1)).filter fun x => !p x
        rw [take_succ_at70 hlt0, List.filter_append, List.filter_eq_self.2 (fun x hx => by rw [Hn.out x hx]; rfl)]
        have hx : p (rd_T70 xs i0) = true := Hs.out _ (by unfold rd_T70; rw [List.getD_eq_getElem?_getD, Int.toNat_natCast, List.getElem?_eq_getElem hlt0]; rfl)
        simp [hx]
      · exact Kd.R_below HR.out HB.out
      · exact HIb.out _ _ HI.out (grown_of_below HB.out _)
      · exact grown_of_below HB.out _
    case round =>
      obtain ⟨i, j, cur, rfl, rfl, hij, hjn, hg, A1, A2, A3, A4, A5, A6⟩ := hrel
      by_cases hlt : j < xs.length
      · have hltz : (j : Int) < (xs.length : Int) := by omega
        obtain ⟨ad, e0, hx0, hx1⟩ := at_T70 (Kd.R_reads' A4.out).2.2 j (by omega) (by rw [A1.out]; exact hltz)
        cases e0
        rw [Int.toNat_natCast, add_plain] at hx0 hx1
        have hrd := Lib.hid (rd_drop70 A3.out hlt)
        have hts := Lib.hid (take_succ_at70 hlt)
        have hbnd : (i : Int) < (xs.length : Int) := by omega
        cases hq : p (rd_T70 cur j) with
        | true =>
          have Q := Lib.hid hq
          clear hq
          go_wp2_with ((with_reducible refine (HP.out _ (rd_T70 cur j) ?hI).mono ?_); (case hI => exact HIb.out _ _ A5.out (grown_of_below (below_alloc (Below.refl _ _) _) _)); rintro e w'' ⟨rfl, hb'⟩; rw [Q.out]; have HB2 := Lib.hid (below_then (below_alloc (Below.refl wr.heap.size wr) _) (by simp) hb'); clear hb')
          go_roundg (xs.length - (j + 1))
          case measure => omega
          case rel =>
            refine ⟨i, j + 1, cur, rfl, by go_num, by omega, by omega, by omega, A1.out, ?_, ?_, Kd.R_below A4.out HB2.out, HIb.out _ _ A5.out (grown_of_below HB2.out _), World.grownBy.trans A6.out (grown_of_below HB2.out _)⟩
            · show cur.take i = (xs.take (j + 1)).filter fun x => !p x
              rw [hts.out, List.filter_append, ← hrd.out, A2.out]
              simp [Q.out]
            · show cur.drop (j + 1) = xs.drop (j + 1)
              rw [← List.drop_drop, A3.out, List.drop_drop]
        | false =>
          have Q := Lib.hid hq
          clear hq
          go_wp2_with (first
            | ((with_reducible refine (HP.out _ (rd_T70 cur j) ?hI).mono ?_); (case hI => exact HIb.out _ _ A5.out (grown_of_below (below_alloc (Below.refl _ _) _) _)); rintro e w'' ⟨rfl, hb'⟩; rw [Q.out]; have HB2 := Lib.hid (below_then (below_alloc (Below.refl wr.heap.size wr) _) (by simp) hb')
               have hy0 : w''.cell? ⟨wr.heap.size, 0, none⟩ = some (.int .i64 (rd_T70 cur j).f0) := (hb'.cell (p := ⟨wr.heap.size, 0, none⟩) (by simp)).trans (by go_simp)
               have hy1 : w''.cell? ⟨wr.heap.size, 1, none⟩ = some (.int .i64 (rd_T70 cur j).f1) := (hb'.cell (p := ⟨wr.heap.size, 1, none⟩) (by simp)).trans (by go_simp)
               clear hb')
            | (refine Kd.R_store k70 base ?hN ?hg 70 (.tmp 33) (.tmp 32) rfl 70 i 0 cur (rd_T70 cur j) (.agg #[.int .i64 (rd_T70 cur j).f0, .int .i64 (rd_T70 cur j).f1]) [Value.int .i64 (rd_T70 cur j).f0, .int .i64 (rd_T70 cur j).f1] [Value.int .i64 (rd_T70 cur i).f0, .int .i64 (rd_T70 cur i).f1] ok (fun k => ok k ∧ k ≠ gr) rfl rfl rfl rfl (by kernel_rfl) (k70.K_one (k70_mk w'' (rd_T70 cur j))) (Kd.R_below A4.out HB2.out) (by omega) hbnd rfl ?hcc (show (2 : Nat) ≤ 2 from Nat.le_refl _) (k70_mkM _ _ _ _) (fun _ h => h) (Below.refl _ _) ?_
               (case hN => rfl); (case hg => rfl)
               (case hcc => exact rowc70 (Kd.R_below A4.out HB2.out) i (by omega) (by rw [A1.out]; exact hbnd))
               intro w3 hR3 _ hg3; have HR3 := Lib.hid hR3; have HG3 := Lib.hid hg3; clear hR3 hg3))
          go_roundg (xs.length - (j + 1))
          case measure => omega
          case rel =>
            refine ⟨i + 1, j + 1, cur.set i (rd_T70 cur j), by go_num, by go_num, by omega, by omega, by omega, ?_, ?_, ?_, ?_, ?_, ?_⟩
            · show (cur.set i _).length = _
              rw [List.length_set]; exact A1.out
            · show (cur.set i (rd_T70 cur j)).take (i + 1) = (xs.take (j + 1)).filter fun x => !p x
              have hcl := A1.out
              rw [hts.out, List.filter_append, ← hrd.out, ← A2.out, List.take_succ_eq_append_getElem (by rw [List.length_set]; omega), List.take_set_of_le (Nat.le_refl _)]
              simp [Q.out]
            · show (cur.set i _).drop (j + 1) = xs.drop (j + 1)
              rw [List.drop_set_of_lt (by omega), ← List.drop_drop, A3.out, List.drop_drop]
            · exact HR3.out
            · exact HIb.out _ _ (HIb.out _ _ A5.out (grown_of_below HB2.out _)) HG3.out
            · exact World.grownBy.trans A6.out (World.grownBy.trans (grown_of_below HB2.out _) HG3.out)
      · have hltz : ¬ (j : Int) < (xs.length : Int) := by omega
        obtain rfl : j = xs.length := by omega
        have hil : i ≤ xs.length := by omega
        have HC2 := Lib.hid (Kd.R_reads' A4.out)
        have hic : i ≤ c := Nat.le_trans hil HC2.out.2.1
        by_cases hci : c = i
        · subst hci
          obtain ⟨w1, hrun, hR1, hg1, _⟩ := run_clear_rows k70 23 70 0 (.agg #[.int .i64 0, .int .i64 0]) Tryd.underlying23 (fun w => by kernel_rfl) rfl (by decide) A4.out hil (A := some ⟨gr, 0, none⟩) (c2 := 0) (fun h => absurd h (by have := HC2.out.2.1; omega)) (Below.refl base wr)
          have HG1 := Lib.hid hg1
          have HR1 := Lib.hid hR1
          clear hg1 hR1
          go_wp2
          go_ret
          refine ⟨_, rfl, ?_, World.grownBy.trans A6.out HG1.out⟩
          have e := A2.out
          rw [List.take_length] at e
          rw [← e]
          exact HR1.out
        · obtain ⟨w1, hrun, hR1, hg1, _⟩ := run_clear_rows k70 23 70 0 (.agg #[.int .i64 0, .int .i64 0]) Tryd.underlying23 (fun w => by kernel_rfl) rfl (by decide) A4.out hil (A := some ⟨gr, i * 2, none⟩) (c2 := c - i) (fun _ => rfl) (Below.refl base wr)
          have HG1 := Lib.hid hg1
          have HR1 := Lib.hid hR1
          clear hg1 hR1
          go_wp2
          go_ret
          refine ⟨_, rfl, ?_, World.grownBy.trans A6.out HG1.out⟩
          have e := A2.out
          rw [List.take_length] at e
          rw [← e]
          exact HR1.out
end Go.Proofs.YtjphmebhofkhcaaDoor.Dr
/- The contract of marks.Drop: the spans and the sites of other marks alone. Conditions: sizes below 2^47 bytes. -/
namespace Go.Proofs.YtjphmebhofkhcaaDoor.Dr
open Go.RowKit Go.Proofs.YtjphmebhofkhcaaDoorOwn Go.Proofs.YtjphmebhofkhcaaDoorPl Go.Proofs.YtjphmebhofkhcaaDoorW.PrintWords Go.Proofs.YtjphmebhofkhcaaDoorW.PrintLast Go.Proofs.YtjphmebhofkhcaaDoorW.PrintMore Go.Proofs.YtjphmebhofkhcaaDoor.PSegAll
set_option linter.unusedVariables false
set_option linter.unusedSimpArgs false
def MDrop (w : World) (xs : List S67) (ys : List S70) (e : Ending) (w' : World) : Prop :=
  ∃ v0_ v1_ : Value, e = .returned (.agg #[v0_, v1_]) ∧ Kd.R k67 67 w' w.heap.size (fun _ => True) v0_ xs ∧ Kd.R k70 70 w' w.heap.size (fun _ => True) v1_ ys ∧ Below w.heap.size w w'
set_option maxHeartbeats 800000 in
set_option maxRecDepth 100000 in
theorem predA (b : Nat) (mark : Int) (W : World) (x : S67) (hc : W.cell? ⟨b, 0, none⟩ = some (.int .i64 mark)) :
    Calls Tryd.prog 97 (#[.agg #[.int .i64 x.f0, .int .i64 x.f1, .int .i64 x.f2]] ++ #[.pointer (some ⟨b, 0, none⟩)]) W fun e w' => e = .returned (.bool (x.f0 == mark)) ∧ Below W.heap.size W w' := by
  have hc' : (W.alloc (.cells #[.int .i64 x.f0, .int .i64 x.f1, .int .i64 x.f2] 67)).cell? ⟨b, 0, none⟩ = some (.int .i64 mark) := ((below_alloc (Below.refl _ _) _).cell (World.block_lt_of_cell? W _ hc)).trans hc
  show Calls Tryd.prog 97 #[.agg #[.int .i64 x.f0, .int .i64 x.f1, .int .i64 x.f2], .pointer (some ⟨b, 0, none⟩)] W _
  go_enter Tryd.func97, Tryd.ntmps97
  go_wp2_with ((with_reducible refine gate_dst (N := 2) rfl ?_); refine box_event ?hg (N := 2) ?hd (cs := #[.int .i64 x.f0, .int .i64 x.f1, .int .i64 x.f2]) (t := 67) ?hr ?_; (case hd => rfl); (case hg => rfl); (case hr => first | (go_simp; done) | (go_simp; rfl)); intro gb hg w1 hbox hb
               have h0 := (blk_cell hbox 0).trans rfl; have h1 : w1.cell? ⟨b, 0, none⟩ = some (.int .i64 mark) := (hb.cell (World.block_lt_of_cell? W _ hc)).trans hc; have HB := Lib.hid hb; clear hg hbox hb)
  go_ret
  exact ⟨rfl, HB.out⟩
set_option maxHeartbeats 800000 in
set_option maxRecDepth 100000 in
theorem predB (b : Nat) (mark : Int) (W : World) (x : S70) (hc : W.cell? ⟨b, 0, none⟩ = some (.int .i64 mark)) :
    Calls Tryd.prog 99 (#[.agg #[.int .i64 x.f0, .int .i64 x.f1]] ++ #[.pointer (some ⟨b, 0, none⟩)]) W fun e w' => e = .returned (.bool (x.f0 == mark)) ∧ Below W.heap.size W w' := by
  show Calls Tryd.prog 99 #[.agg #[.int .i64 x.f0, .int .i64 x.f1], .pointer (some ⟨b, 0, none⟩)] W _
  go_enter Tryd.func99, Tryd.ntmps99
  go_wp2_with ((with_reducible refine gate_dst (N := 2) rfl ?_); refine box_event ?hg (N := 2) ?hd (cs := #[.int .i64 x.f0, .int .i64 x.f1]) (t := 70) ?hr ?_; (case hd => rfl); (case hg => rfl); (case hr => first | (go_simp; done) | (go_simp; rfl)); intro gb hg w1 hbox hb
               have h0 := (blk_cell hbox 0).trans rfl; have h1 : w1.cell? ⟨b, 0, none⟩ = some (.int .i64 mark) := (hb.cell (World.block_lt_of_cell? W _ hc)).trans hc; have HB := Lib.hid hb; clear hg hbox hb)
  go_ret
  exact ⟨rfl, HB.out⟩
theorem row_keeps {W W' : World} {b B : Nat} {u v : Value} (hI : W.cell? ⟨b, 0, none⟩ = some u) (hg : W.grownBy W' v.ownBlock) (hb : ∀ k, v.ownBlock = some k → B ≤ k) (hlt : b < B) : W'.cell? ⟨b, 0, none⟩ = some u := by
  have hB := World.block_lt_of_cell? W _ hI
  have h := hg.block b hB (fun e => by have := hb b e.symm; omega)
  rw [← hI]
  simp [World.cell?, h]
/-- What holds all along the drawn region: the boxes' cells, what lies below, the result's block. -/
abbrev RS (w3 : World) (a b c : Addr) (u v x : Value) (g4 : Nat) (w' : World) : Prop := w'.cell? a = some u ∧ w'.cell? b = some v ∧ w'.cell? c = some x ∧ Below w3.heap.size w3 w' ∧ Aside0 (∃ u0 u1, w'.heap[g4]? = some (.cells #[u0, u1] 29 (0, 0)))
theorem RS.next {w3 W W' : World} {a b c : Addr} {u v x : Value} {g4 : Nat} (h : RS w3 a b c u v x g4 W) (hb : Below W.heap.size W W') : RS w3 a b c u v x g4 W' :=
  ⟨pw_cell_below hb h.1, pw_cell_below hb h.2.1, pw_cell_below hb h.2.2.1, below_then h.2.2.2.1 h.2.2.2.1.size hb, ⟨by
    obtain ⟨u0, u1, h5⟩ := h.2.2.2.2.out
    exact ⟨u0, u1, (hb.block g4 (blk_lt h5)).trans h5⟩⟩⟩
theorem RS.grown {w3 W W' : World} {a b c : Addr} {u v x : Value} {g4 : Nat} {row : Option Nat} (h : RS w3 a b c u v x g4 W) (hg : W.grownBy W' row) (hr : ∀ k, row = some k → w3.heap.size ≤ k) (h4 : some g4 ≠ row)
    (ha : a.block < w3.heap.size) (hb : b.block < w3.heap.size) (hc : c.block < w3.heap.size) : RS w3 a b c u v x g4 W' := by
  have hB := h.2.2.2.1.grown hg h.2.2.2.1.size hr
  have key : ∀ {p : Addr} {z : Value}, p.block < w3.heap.size → W.cell? p = some z → W'.cell? p = some z := fun hp hz => by
    rw [← hz, hB.cell hp, ← h.2.2.2.1.cell hp]
  refine ⟨key ha h.1, key hb h.2.1, key hc h.2.2.1, hB, ⟨?_⟩⟩
  obtain ⟨u0, u1, h5⟩ := h.2.2.2.2.out
  exact ⟨u0, u1, (hg.block g4 (blk_lt h5) h4).trans h5⟩
theorem RS.set {w3 W : World} {a b c : Addr} {u v x : Value} {g4 : Nat} (h : RS w3 a b c u v x g4 W) (y0 y1 : Value) (h4 : w3.heap.size ≤ g4) (ha : a.block < w3.heap.size) (hb : b.block < w3.heap.size) (hc : c.block < w3.heap.size) :
    RS w3 a b c u v x g4 ((W.setCell ⟨g4, 0, none⟩ y0).setCell ⟨g4, 1, none⟩ y1) := by
  have hB := below_set (below_set h.2.2.2.1 h4 (j := 0) (v := y0)) h4 (j := 1) (v := y1)
  have key : ∀ {p : Addr} {z : Value}, p.block < w3.heap.size → W.cell? p = some z → ((W.setCell ⟨g4, 0, none⟩ y0).setCell ⟨g4, 1, none⟩ y1).cell? p = some z := fun hp hz => by
    rw [← hz, hB.cell hp, ← h.2.2.2.1.cell hp]
  refine ⟨key ha h.1, key hb h.2.1, key hc h.2.2.1, hB, ⟨?_⟩⟩
  obtain ⟨u0, u1, h5⟩ := h.2.2.2.2.out
  exact ⟨y0, y1, by simpa using blk_set (blk_set h5 0 y0) 1 y1⟩
set_option maxHeartbeats 1600000 in
set_option maxRecDepth 100000 in
theorem mdrop_calls (w : World) (A0 A1 : Option Addr) (c0 c1 : Nat) (xs : List S67) (ys : List S70) (mark : Int) (hr0 : Kd.C k67 w A0 xs.length xs) (hc0 : xs.length ≤ c0) (hr1 : Kd.C k70 w A1 ys.length ys) (hc1 : ys.length ≤ c1) (hl0 : xs.length * 24 ≤ 140737488355328) (hl1 : ys.length * 16 ≤ 140737488355328) :
    Calls Tryd.prog 82 #[.agg #[.slice A0 xs.length c0, .slice A1 ys.length c1], .int .i64 mark] w (MDrop w (xs.filter fun x => !(x.f0 == mark)) (ys.filter fun x => !(x.f0 == mark))) := by
  have HR0 := Lib.hid hr0; have HC0 := Lib.hid hc0; have HR1 := Lib.hid hr1; have HC1 := Lib.hid hc1; have HL0 := Lib.hid hl0; have HL1 := Lib.hid hl1
  clear hr0 hc0 hr1 hc1 hl0 hl1
  go_enter Tryd.func82, Tryd.ntmps82
  go_wp2_with (first
    | ((with_reducible refine gate_dst (N := 2) rfl ?_); refine box_event ?hg (N := 2) ?hd (cs := #[.slice A0 xs.length c0, .slice A1 ys.length c1]) (t := 29) ?hr ?_; (case hd => rfl); (case hg => rfl); (case hr => first | (go_simp; done) | (go_simp; rfl)); intro g2 hg2 w2 hb2 HB2
       have HG2 := Lib.hid hg2; have HB2' := Lib.hid HB2; have HX2 := Lib.hid hb2; clear hg2 HB2 hb2)
    | ((with_reducible refine gate_dst (N := 3) rfl ?_); refine box_event ?hg (N := 3) ?hd (cs := #[.int .i64 mark]) (t := 3) ?hr ?_; (case hd => rfl); (case hg => rfl); (case hr => first | (go_simp; done) | (go_simp; rfl)); intro g3 hg3 w3 hb3 HB3
       have HG3 := Lib.hid hg3; have HB3' := Lib.hid HB3; have HX3 := Lib.hid hb3; clear hg3 HB3 hb3)
    | ((with_reducible refine gate_dst (N := 4) rfl ?_); refine box_event ?hg (N := 4) ?hd (cs := #[.slice none 0 0, .slice none 0 0]) (t := 29) ?hr ?_; (case hd => rfl); (case hg => rfl); (case hr => first | (go_simp; done) | (go_simp; rfl)); intro g4 hg4 w4 hb4 HB4
       have HG4 := Lib.hid hg4; have HB4' := Lib.hid HB4; have HX4 := Lib.hid hb4; clear hg4 HB4 hb4)
    | fail)
  have QW : Hid (Below w.heap.size w w3) := Lib.hid (below_then HB2'.out HB2'.out.size HB3'.out)
  have q0 : w3.cell? ⟨g2, 0, none⟩ = some (.slice A0 xs.length c0) := pw_cell_below HB3'.out ((blk_cell HX2.out 0).trans rfl)
  have q1 : w3.cell? ⟨g2, 1, none⟩ = some (.slice A1 ys.length c1) := pw_cell_below HB3'.out ((blk_cell HX2.out 1).trans rfl)
  have q3 : w3.cell? ⟨g3, 0, none⟩ = some (.int .i64 mark) := (blk_cell HX3.out 0).trans rfl
  have HL2 := Lib.hid (World.block_lt_of_cell? w3 _ q0); have HL3 := Lib.hid (World.block_lt_of_cell? w3 _ q3)
  have QS := Lib.hid (show RS w3 ⟨g2, 0, none⟩ ⟨g2, 1, none⟩ ⟨g3, 0, none⟩ (.slice A0 xs.length c0) (.slice A1 ys.length c1) (.int .i64 mark) g4 w4 from
    ⟨pw_cell_below HB4'.out q0, pw_cell_below HB4'.out q1, pw_cell_below HB4'.out q3, HB4'.out, ⟨⟨_, _, HX4.out⟩⟩⟩)
  have L3 := Lib.hid (show g3 < w4.drew.heap.size from Nat.lt_of_lt_of_le HL3.out HB4'.out.size); have L4 := Lib.hid (show g4 < w4.drew.heap.size from blk_lt HX4.out); have L0 := Lib.hid (show w3.heap.size ≤ w4.drew.heap.size from HB4'.out.size)
  clear q0 q1 q3
  simp only [Act.put, List.setIfInBounds_toArray, List.set_cons_zero, List.set_cons_succ]
  go_region_held3 (fun w' => RS w3 ⟨g2, 0, none⟩ ⟨g2, 1, none⟩ ⟨g3, 0, none⟩ (.slice A0 xs.length c0) (.slice A1 ys.length c1) (.int .i64 mark) g4 w')
    (first | exact QS.out | exact QS.out.next (below_drew1 (Below.refl _ _)) | assumption | exact HS7.out | exact HS9.out | exact HS12.out | exact HS14.out | exact RS.set HS14.out _ _ (Nat.le_of_eq HG4.out.symm) HL2.out HL2.out HL3.out)
    (first
      | (go_at_call 33; (with_reducible refine (clone67 A0 c0 xs _ ?hr HC0.out HL0.out).mono ?_)
         (case hr => exact Kd.C_below HR0.out (below_then QW.out QW.out.size (‹_ ∧ _ ∧ _ ∧ Below w3.heap.size w3 _ ∧ _›).2.2.2.1))
         rintro e w7 ⟨v7, rfl, hr7, hb7⟩; have HS7 := Lib.hid (RS.next ‹_ ∧ _ ∧ _ ∧ Below w3.heap.size w3 _ ∧ _› hb7); have HR7 := Lib.hid hr7; clear hb7 hr7)
      | (go_at_call 96; (refine (delete67 v7 xs 97 #[.pointer (some ⟨g3, 0, none⟩)] (fun x => x.f0 == mark) (fun W => W.cell? ⟨g3, 0, none⟩ = some (.int .i64 mark)) _ (fun _ => True) _ (Go.Proofs.enters_of Tryd.func97 (by kernel_rfl) rfl) (fun W x hI => predA g3 mark W x hI) ?hI ?hIb HR7.out).mono ?_)
         (case hI => exact (‹_ ∧ _ ∧ _ ∧ Below w3.heap.size w3 _ ∧ _›).2.2.1)
         (case hIb => exact fun W W' hI hg => row_keeps hI hg (Kd.R_base HR7.out) L3.out)
         rintro e w9 ⟨v9, rfl, hr9, hg9⟩
         have HS9 := Lib.hid (RS.grown ‹_ ∧ _ ∧ _ ∧ Below w3.heap.size w3 _ ∧ _› hg9 (fun k hk => Nat.le_trans L0.out (Kd.R_base HR7.out k hk)) (fun e => absurd (Kd.R_base HR7.out g4 e.symm) (Nat.not_le.2 L4.out)) HL2.out HL2.out HL3.out)
         obtain ⟨A9, c9, rfl⟩ := Kd.R_slice hr9
         have HR9 := Lib.hid hr9; clear hr9 hg9)
      | (go_at_call 34; (with_reducible refine (clone70 A1 c1 ys _ ?hr HC1.out HL1.out).mono ?_)
         (case hr => exact Kd.C_below HR1.out (below_then QW.out QW.out.size (‹_ ∧ _ ∧ _ ∧ Below w3.heap.size w3 _ ∧ _›).2.2.2.1))
         rintro e w12 ⟨v12, rfl, hr12, hb12⟩; have HS12 := Lib.hid (RS.next ‹_ ∧ _ ∧ _ ∧ Below w3.heap.size w3 _ ∧ _› hb12); have HR12 := Lib.hid hr12; have HB12 := Lib.hid hb12; clear hb12 hr12)
      | (go_at_call 98; (refine (delete70 v12 ys 99 #[.pointer (some ⟨g3, 0, none⟩)] (fun x => x.f0 == mark) (fun W => W.cell? ⟨g3, 0, none⟩ = some (.int .i64 mark)) _ (fun _ => True) _ (Go.Proofs.enters_of Tryd.func99 (by kernel_rfl) rfl) (fun W x hI => predB g3 mark W x hI) ?hI ?hIb HR12.out).mono ?_)
         (case hI => exact (‹_ ∧ _ ∧ _ ∧ Below w3.heap.size w3 _ ∧ _›).2.2.1)
         (case hIb => exact fun W W' hI hg => row_keeps hI hg (Kd.R_base HR12.out) (Nat.lt_of_lt_of_le HL3.out HS9.out.2.2.2.1.size))
         rintro e w14 ⟨v14, rfl, hr14, hg14⟩
         have HS14 := Lib.hid (RS.grown ‹_ ∧ _ ∧ _ ∧ Below w3.heap.size w3 _ ∧ _› hg14 (fun k hk => Nat.le_trans HS9.out.2.2.2.1.size (Kd.R_base HR12.out k hk)) (fun e => absurd (Kd.R_base HR12.out g4 e.symm) (Nat.not_le.2 (blk_lt HS9.out.2.2.2.2.out.choose_spec.choose_spec))) HL2.out HL2.out HL3.out)
         obtain ⟨A14, c14, rfl⟩ := Kd.R_slice hr14
         have HR14 := Lib.hid hr14; have HG14 := Lib.hid hg14; clear hr14 hg14
         obtain ⟨u0, u1, hblk⟩ := HS14.out.2.2.2.2.out
         have y0 := blk_cell hblk 0; have y1 := blk_cell hblk 1; have z0 := blk_frozen hblk 0; have z1 := blk_frozen hblk 1
         have HBK := Lib.hid hblk; clear hblk))
  all_goals
    go_wp2
    have hb1 := blk_set HBK.out 0 (.slice A9 (xs.filter fun x => !(x.f0 == mark)).length c9)
    have hb2 := blk_set hb1 1 (.slice A14 (ys.filter fun x => !(x.f0 == mark)).length c14)
    have g9 : ∀ k, (Value.slice A9 (xs.filter fun x => !(x.f0 == mark)).length c9).ownBlock = some k → k ≠ g4 := fun k hk e => absurd (Kd.R_base HR9.out k hk) (Nat.not_le.2 (by rw [e]; exact L4.out))
    have g12 : ∀ k, v12.ownBlock = some k → k ≠ g4 ∧ w9.heap.size ≤ k := fun k hk => ⟨fun e => absurd (Kd.R_base HR12.out k hk) (Nat.not_le.2 (by rw [e]; exact (blk_lt HS9.out.2.2.2.2.out.choose_spec.choose_spec))), Kd.R_base HR12.out k hk⟩
    have g14 : ∀ k, (Value.slice A14 (ys.filter fun x => !(x.f0 == mark)).length c14).ownBlock = some k → k ≠ g4 := fun k hk e => absurd (Kd.R_base HR14.out k hk) (Nat.not_le.2 (by rw [e]; exact (blk_lt HS9.out.2.2.2.2.out.choose_spec.choose_spec)))
    have HR9' : Kd.R k67 67 w14 w4.drew.heap.size (fun _ => True) (.slice A9 (xs.filter fun x => !(x.f0 == mark)).length c9) (xs.filter fun x => !(x.f0 == mark)) :=
      Kd.R_mono (Kd.R_grown (Kd.R_below (Kd.R_bound HR9.out) HB12.out) HG14.out (fun k hk e => absurd (g12 k e.symm).2 (Nat.not_le.2 hk.2.2.1))) (fun _ _ => trivial)
    refine bodyPost_ret (results_cell_row rfl _ _ g4 29 #[.slice A9 (xs.filter fun x => !(x.f0 == mark)).length c9, .slice A14 (ys.filter fun x => !(x.f0 == mark)).length c14] (0, 0) _ rfl (by simpa using hb2) Tryd.underlying29 rfl (by kernel_rfl)) rfl ?_
    have hbase : w.heap.size ≤ w4.drew.heap.size := Nat.le_trans QW.out.size L0.out
    have hbase' : w.heap.size ≤ w9.heap.size := Nat.le_trans QW.out.size HS9.out.2.2.2.1.size
    refine ⟨_, _, rfl, ?_, ?_, ?_⟩
    · refine Kd.R_lower (Kd.R_mono (Kd.R_far (Kd.R_far (Kd.R_tight rfl HR9') ?_ _) ?_ _) (fun _ _ => trivial)) hbase <;> exact fun k hk => g9 k hk.symm
    · refine Kd.R_lower (Kd.R_mono (Kd.R_far (Kd.R_far (Kd.R_tight rfl HR14.out) ?_ _) ?_ _) (fun _ _ => trivial)) hbase' <;> exact fun k hk => g14 k hk.symm
    · exact below_set (below_set (below_then QW.out QW.out.size HS14.out.2.2.2.1) (by rw [HG4.out]; exact QW.out.size)) (by rw [HG4.out]; exact QW.out.size)
end Go.Proofs.YtjphmebhofkhcaaDoor.Dr
/- Segments: letters of a text, places, small walks. Conditions: texts of at most 2^40 bytes. -/
namespace Go.Proofs.YtjphmebhofkhcaaDoor.Seg
open Go.RowKit Go.Proofs.YtjphmebhofkhcaaDoorPl Go.Proofs.YtjphmebhofkhcaaDoorW.PrintWords Go.Proofs.YtjphmebhofkhcaaDoorW.PrintLast Go.Proofs.YtjphmebhofkhcaaDoorW.PrintMore Go.Proofs.YtjphmebhofkhcaaDoor.Rope Go.Proofs.YtjphmebhofkhcaaDoor.PSegAll Go.Proofs.YtjphmebhofkhcaaDoor.Pure
set_option linter.unusedVariables false
set_option linter.unusedSimpArgs false
attribute [local go_sem] max2_int min2_int max_two min_two
theorem letts_uniq : ∀ {cs ds : List (List UInt8)}, Letts cs → Letts ds → cs.flatten = ds.flatten → cs = ds
  | [], [], _, _, _ => rfl
  | [], d :: r, _, hd, h => by
    have h1 := (hd d (by simp)).pos
    have h2 := congrArg List.length h
    rw [List.flatten_cons, List.length_append] at h2
    simp only [List.flatten_nil, List.length_nil] at h2
    omega
  | c :: r, [], hc, _, h => by
    have h1 := (hc c (by simp)).pos
    have h2 := congrArg List.length h
    rw [List.flatten_cons, List.length_append] at h2
    simp only [List.flatten_nil, List.length_nil] at h2
    omega
  | c :: r, d :: q, hc, hd, h => by
    have e1 := lett_append (hc c (by simp)) r.flatten
    have e2 := lett_append (hd d (by simp)) q.flatten
    rw [List.flatten_cons, List.flatten_cons] at h
    rw [h, e2] at e1
    have el : c.length = d.length := by rw [← (hc c (by simp)).1, ← (hd d (by simp)).1, e1]
    have ec : c = d := by
      have := congrArg (List.take c.length) h
      rw [List.take_left, el, List.take_left] at this
      exact this
    subst ec
    have er := List.append_cancel_left h
    rw [letts_uniq (fun x hx => hc x (by simp [hx])) (fun x hx => hd x (by simp [hx])) er]
/-- The letters of a right text. -/
noncomputable def lets (s : ByteArray) : List (List UInt8) := open Classical in if h : ∃ cs, Letts cs ∧ s.data.toList = cs.flatten then Classical.choose h else []
theorem lets_eq {s : ByteArray} {cs : List (List UInt8)} (hl : Letts cs) (h : s.data.toList = cs.flatten) : lets s = cs := by
  have hx : ∃ cs, Letts cs ∧ s.data.toList = cs.flatten := ⟨cs, hl, h⟩
  unfold lets
  rw [dif_pos hx]
  have h2 := Classical.choose_spec hx
  exact letts_uniq h2.1 hl (h2.2.symm.trans h)
theorem lets_ok {s : ByteArray} (hv : Lib.validD s.data.toList = true) : Letts (lets s) ∧ s.data.toList = (lets s).flatten := by
  obtain ⟨cs, hl, h⟩ := (validD_iff _).1 hv
  rw [lets_eq hl h]
  exact ⟨hl, h⟩
theorem cnt_lets {s : ByteArray} (hv : Lib.validD s.data.toList = true) (hs : s.size ≤ 1099511627776) : cnt s = ((lets s).length : Int) := cnt_eq (lets_ok hv).1 (lets_ok hv).2 hs
theorem lets_le {s : ByteArray} (hv : Lib.validD s.data.toList = true) : (lets s).length ≤ s.size := by
  have k := letts_le _ (lets_ok hv).1
  rw [← (lets_ok hv).2, toList_size] at k
  exact k
/-- A text of letters. -/
def ofL (cs : List (List UInt8)) : ByteArray := ⟨cs.flatten.toArray⟩
theorem ofL_data (cs : List (List UInt8)) : (ofL cs).data.toList = cs.flatten := by unfold ofL; simp
theorem ofL_eq {s : ByteArray} {cs : List (List UInt8)} (h : s.data.toList = cs.flatten) : s = ofL cs := by
  apply ByteArray.ext
  apply Array.ext'
  rw [h, ofL_data]
theorem ofL_lets {s : ByteArray} (hv : Lib.validD s.data.toList = true) : ofL (lets s) = s := (ofL_eq (lets_ok hv).2).symm
theorem ofL_valid {cs : List (List UInt8)} (h : Letts cs) : Lib.validD (ofL cs).data.toList = true := (validD_iff _).2 ⟨cs, h, ofL_data cs⟩
theorem lets_ofL {cs : List (List UInt8)} (h : Letts cs) : lets (ofL cs) = cs := lets_eq h (ofL_data cs)
theorem ofL_size (cs : List (List UInt8)) : (ofL cs).size = cs.flatten.length := by rw [← ofL_data, toList_size]
noncomputable def putT (s : ByteArray) (a : Int) (t : ByteArray) : ByteArray := ofL ((lets s).take a.toNat ++ lets t ++ (lets s).drop a.toNat)
noncomputable def cutT (s : ByteArray) (a b : Int) : ByteArray := ofL (((lets s).take b.toNat).drop a.toNat)
theorem letts_app {cs ds : List (List UInt8)} (h1 : Letts cs) (h2 : Letts ds) : Letts (cs ++ ds) := fun c hc => (List.mem_append.1 hc).elim (h1 c) (h2 c)
theorem letts_take {cs : List (List UInt8)} (h : Letts cs) (n : Nat) : Letts (cs.take n) := fun c hc => h c (List.mem_of_mem_take hc)
theorem letts_drop {cs : List (List UInt8)} (h : Letts cs) (n : Nat) : Letts (cs.drop n) := fun c hc => h c (List.mem_of_mem_drop hc)
theorem putT_size {s t : ByteArray} (hs : Lib.validD s.data.toList = true) (ht : Lib.validD t.data.toList = true) (a : Int) : (putT s a t).size = s.size + t.size := by
  unfold putT
  rw [ofL_size, List.flatten_append, List.flatten_append, List.length_append, List.length_append, ← toList_size s, ← toList_size t, (lets_ok hs).2, (lets_ok ht).2, flatten_take_drop (lets s) a.toNat, List.length_append]
  omega
/-- A place within a text. -/
def clampI (c a : Int) : Int := if c < (if a < 0 then 0 else a) then c else (if a < 0 then 0 else a)
theorem clamp_in {c a : Int} (h : 0 ≤ c) : 0 ≤ clampI c a ∧ clampI c a ≤ c := by unfold clampI; (repeat' split) <;> omega
theorem cnt_in {s : ByteArray} (hv : Lib.validD s.data.toList = true) (hs : s.size ≤ 1099511627776) : 0 ≤ cnt s ∧ cnt s ≤ s.size := by
  rw [cnt_lets hv hs]
  have := lets_le hv
  omega
set_option maxRecDepth 100000 in
set_option maxHeartbeats 800000 in
theorem clampG_calls (x : G) (p A : Option Addr) (c : Nat) (B : Option Addr) (d : Nat) (a : Int) (w : World) (hr : Rp w p x.f2) (hz : x.f2.size ≤ 1099511627776) :
    Calls Tryd.prog 42 #[.agg (sgC x p A c B d), .int .i64 a] w fun e w' => e = .returned (.int .i64 (clampI (cnt x.f2) a)) ∧ Below w.heap.size w w' := by
  obtain ⟨m, e1⟩ : ∃ z, (if a < 0 then (0 : Int) else a) = z := ⟨_, rfl⟩
  obtain ⟨n, hn⟩ : ∃ n, n = cnt x.f2 := ⟨_, rfl⟩
  obtain ⟨r, e2⟩ : ∃ z, (if n < m then n else m) = z := ⟨_, rfl⟩
  have er : clampI (cnt x.f2) a = r := by unfold clampI; rw [e1, ← hn]; exact e2
  rw [er]
  have HN := Lib.hid hn
  have HR := Lib.hid hr
  clear hr hn er
  go_enter Tryd.func42, Tryd.ntmps42
  go_wp2_with fail
  (go_at_call 36; refine (len_rp (HR.out.below (below_alloc (Below.refl _ _) _)) hz).mono ?_; rw [← HN.out]; rintro e w1 ⟨rfl, rfl⟩)
  go_wp2
  go_ret
  exact ⟨rfl, below_alloc (Below.refl _ _) _⟩
set_option maxRecDepth 100000 in
set_option maxHeartbeats 800000 in
theorem ropeG_calls (x : G) (p A : Option Addr) (c : Nat) (B : Option Addr) (d : Nat) (w : World) :
    Calls Tryd.prog 15 #[.agg (sgC x p A c B d)] w fun e w' => e = .returned (.pointer p) ∧ Below w.heap.size w w' := by
  go_enter Tryd.func15, Tryd.ntmps15
  go_wp2
  go_ret
  exact ⟨rfl, below_alloc (Below.refl _ _) _⟩
set_option maxRecDepth 100000 in
set_option maxHeartbeats 800000 in
theorem of5_calls (s : ByteArray) (w : World) (hs : s.size ≤ 1099511627776) (hT : Tabs w) (hv : Lib.validD s.data.toList = true) :
    Calls Tryd.prog 14 #[.string s] w fun e w' => ∃ p, e = .returned (.pointer p) ∧ Rp w' p s ∧ Below w.heap.size w w' := by
  have HT := Lib.hid hT
  have HV := Lib.hid hv
  clear hT hv
  go_enter Tryd.func14, Tryd.ntmps14
  go_wp2_with fail
  (go_at_call 32; refine (new_rpS s _ hs HT.out HV.out).mono ?_; rintro e w1 ⟨p, rfl, hi, hb⟩)
  go_wp2
  go_ret
  exact ⟨p, rfl, hi, hb⟩
def nG (a b : Int) : G := ⟨a, b, ⟨#[]⟩, [], []⟩
theorem nG_sp (a b : Int) (w : World) : SP w (nG a b) none none 0 none 0 := ⟨⟨⟨Nat.le_refl _, Nat.le_refl _, Kd.C_nil _ _, Kd.C_nil _ _⟩, fun _ e => (by cases e), fun _ e => (by cases e)⟩, rp_none w⟩
set_option maxRecDepth 100000 in
set_option maxHeartbeats 800000 in
theorem segNew_calls (a b : Int) (w : World) : Calls Tryd.prog 31 #[.int .i64 a, .int .i64 b] w fun e w' => e = .returned (.agg (sgC (nG a b) none none 0 none 0)) ∧ Below w.heap.size w w' := by
  go_enter Tryd.func31, Tryd.ntmps31
  go_wp2
  refine bodyPost_ret (results_cell_row rfl _ _ w.heap.size 31 #[.int .i64 a, .int .i64 b, .pointer none, .slice none 0 0, .slice none 0 0] (0, 0) _ rfl (blk_newS rfl) Tryd.underlying31 rfl (by kernel_rfl)) rfl ?_
  exact ⟨rfl, below_alloc (Below.refl _ _) _⟩
end Go.Proofs.YtjphmebhofkhcaaDoor.Seg
/- Segments: the walk of Insert. Conditions: texts of at most 2^30 bytes in all. -/
namespace Go.Proofs.YtjphmebhofkhcaaDoor.Seg
open Go.RowKit Go.Proofs.YtjphmebhofkhcaaDoorPl Go.Proofs.YtjphmebhofkhcaaDoorW.PrintWords Go.Proofs.YtjphmebhofkhcaaDoorW.PrintLast Go.Proofs.YtjphmebhofkhcaaDoorW.PrintMore Go.Proofs.YtjphmebhofkhcaaDoor.Rope Go.Proofs.YtjphmebhofkhcaaDoor.PSegAll Go.Proofs.YtjphmebhofkhcaaDoor.Pure
set_option linter.unusedVariables false
set_option linter.unusedSimpArgs false
theorem bytes_rp {w : World} {p : Option Addr} {s : ByteArray} (h : Rp w p s) : Calls Tryd.prog 41 #[.pointer p] w fun e w' => e = .returned (.int .i64 (s.size : Int)) ∧ w = w' := by
  obtain ⟨t, cs, hi, hs⟩ := h
  have e : bytesO t = s.size := by rw [hi.bytes, ← hs, toList_size]
  rw [← e]
  exact bytes_calls t _ w hi.r
theorem put_rp {w : World} {p q : Option Addr} {s t : ByteArray} (a : Int) (h : Rp w p s) (k : Rp w q t) (hz : s.size + t.size ≤ 1099511627776) :
    Calls Tryd.prog 44 #[.pointer p, .int .i64 a, .pointer q] w fun e w' => ∃ r, e = .returned (.pointer r) ∧ Rp w' r (putT s a t) ∧ Below w.heap.size w w' := by
  obtain ⟨t1, cs, hi, hs⟩ := h
  obtain ⟨t2, ds, ki, ks⟩ := k
  have e1 : bytesO t1 = s.size := by rw [hi.bytes, ← hs, toList_size]
  have e2 : bytesO t2 = t.size := by rw [ki.bytes, ← ks, toList_size]
  refine (put_is a hi ki (by omega)).mono ?_
  rintro e w' ⟨v, rfl, hv, hb⟩
  obtain ⟨r, rfl, hr⟩ := hv.rp (s := putT s a t) (by unfold putT; rw [ofL_data, lets_eq hi.g.letts hs, lets_eq ki.g.letts ks])
  exact ⟨r, rfl, hr, hb⟩
/-- A segment behind a text that is put. -/
noncomputable def insG (x : G) (a : Int) (t : ByteArray) (m : Int) : G := ⟨x.f0, x.f1, putT x.f2 (clampI (cnt x.f2) a) t, putL (clampI (cnt x.f2) a) (cnt t) m x.f3, normY (x.f4.map (Mk.mvY (Mk.toP (clampI (cnt x.f2) a) (cnt t))))⟩
/-- What a walk over a segment of its own keeps. -/
structure IZ (w : World) (g5 g10 : Nat) (y : G) (p A : Option Addr) (c : Nat) (B : Option Addr) (d : Nat) (W : World) : Prop where
  b : Below w.heap.size w W
  lo5 : w.heap.size ≤ g5
  lo10 : w.heap.size ≤ g10
  ne : g5 ≠ g10
  h5 : W.heap[g5]? = some (.cells (sgC y p A c B d) 31 (0, 0))
  h10 : W.heap[g10]? = some (.cells zC 31 (0, 0))
  sp : SP W y p A c B d
theorem IZ.next {w W W' : World} {g5 g10 : Nat} {y : G} {p A : Option Addr} {c : Nat} {B : Option Addr} {d : Nat} (h : IZ w g5 g10 y p A c B d W) (hb : Below W.heap.size W W') : IZ w g5 g10 y p A c B d W' := ⟨below_step h.b hb, h.lo5, h.lo10, h.ne, blk_below h.h5 hb, blk_below h.h10 hb, h.sp.below hb⟩
/-- New marks are laid. -/
theorem IZ.marks {w W W' : World} {g5 g10 : Nat} {y : G} {p A : Option Addr} {c : Nat} {B : Option Addr} {d : Nat} (h : IZ w g5 g10 y p A c B d W) (hb : Below W.heap.size W W') {A' : Option Addr} {c' : Nat} {B' : Option Addr} {d' : Nat} {xs : List S67} {ys : List S70} {base : Nat} {ok ok' : Nat → Prop}
    (r3 : Kd.R kS 67 W' base ok (.slice A' xs.length c') xs) (r4 : Kd.R kY 70 W' base ok' (.slice B' ys.length d') ys) :
    IZ w g5 g10 ⟨y.f0, y.f1, y.f2, xs, ys⟩ p A' c' B' d' ((W'.setCell ⟨g5, 3, none⟩ (.slice A' xs.length c')).setCell ⟨g5, 4, none⟩ (.slice B' ys.length d')) := by
  have k := h.next hb
  have s1 : SP W' ⟨y.f0, y.f1, y.f2, xs, ys⟩ p A' c' B' d' := ⟨TR.of (x := ⟨y.f0, y.f1, y.f2, xs, ys⟩) r3 r4, k.sp.rp⟩
  have s2 := sp_set (sp_set ⟨s1, k.h5⟩ 3 (.slice A' xs.length c')) 4 (.slice B' ys.length d')
  refine ⟨below_set (below_set k.b h.lo5) h.lo5, h.lo5, h.lo10, h.ne, by simpa using s2.2, ?_, s2.1⟩
  exact (Below.heap_setCell _ ⟨g5, 4, none⟩ _ g10 h.ne.symm).trans ((Below.heap_setCell _ ⟨g5, 3, none⟩ _ g10 h.ne.symm).trans k.h10)
/-- A new text is laid. -/
theorem IZ.text {w W W' : World} {g5 g10 : Nat} {y : G} {p A : Option Addr} {c : Nat} {B : Option Addr} {d : Nat} (h : IZ w g5 g10 y p A c B d W) (hb : Below W.heap.size W W') {r : Option Addr} {s : ByteArray} (hr : Rp W' r s) :
    IZ w g5 g10 ⟨y.f0, y.f1, s, y.f3, y.f4⟩ r A c B d (W'.setCell ⟨g5, 2, none⟩ (.pointer r)) := by
  have k := h.next hb
  have s1 : SP W' ⟨y.f0, y.f1, s, y.f3, y.f4⟩ r A c B d := ⟨⟨⟨k.sp.c3, k.sp.c4, k.sp.r3, k.sp.r4⟩, k.sp.t3, k.sp.t4⟩, hr⟩
  have s2 := sp_set ⟨s1, k.h5⟩ 2 (.pointer r)
  refine ⟨below_set k.b h.lo5, h.lo5, h.lo10, h.ne, by simpa using s2.2, ?_, s2.1⟩
  exact (Below.heap_setCell _ ⟨g5, 2, none⟩ _ g10 h.ne.symm).trans k.h10
/-- The answer's segment is laid. -/
theorem IZ.out5 {w W : World} {g5 g10 : Nat} {y : G} {p A : Option Addr} {c : Nat} {B : Option Addr} {d : Nat} (h : IZ w g5 g10 y p A c B d W) :
    (SP (((((W.setCell ⟨g10, 0, none⟩ (.int .i64 y.f0)).setCell ⟨g10, 1, none⟩ (.int .i64 y.f1)).setCell ⟨g10, 2, none⟩ (.pointer p)).setCell ⟨g10, 3, none⟩ (.slice A y.f3.length c)).setCell ⟨g10, 4, none⟩ (.slice B y.f4.length d)) y p A c B d ∧ (((((W.setCell ⟨g10, 0, none⟩ (.int .i64 y.f0)).setCell ⟨g10, 1, none⟩ (.int .i64 y.f1)).setCell ⟨g10, 2, none⟩ (.pointer p)).setCell ⟨g10, 3, none⟩ (.slice A y.f3.length c)).setCell ⟨g10, 4, none⟩ (.slice B y.f4.length d)).heap[g10]? = some (.cells (sgC y p A c B d) 31 (0, 0))) ∧ Below w.heap.size w (((((W.setCell ⟨g10, 0, none⟩ (.int .i64 y.f0)).setCell ⟨g10, 1, none⟩ (.int .i64 y.f1)).setCell ⟨g10, 2, none⟩ (.pointer p)).setCell ⟨g10, 3, none⟩ (.slice A y.f3.length c)).setCell ⟨g10, 4, none⟩ (.slice B y.f4.length d)) := by
  have s := sp_set (sp_set (sp_set (sp_set (sp_set ⟨h.sp, h.h10⟩ 0 (.int .i64 y.f0)) 1 (.int .i64 y.f1)) 2 (.pointer p)) 3 (.slice A y.f3.length c)) 4 (.slice B y.f4.length d)
  exact ⟨⟨s.1, by simpa using s.2⟩, below_set (below_set (below_set (below_set (below_set h.b h.lo10) h.lo10) h.lo10) h.lo10) h.lo10⟩
/-- What may be asked of Insert. -/
structure InsOk (x : G) (t : ByteArray) : Prop where
  z : Sz x
  v : okB x = true
  b1 : x.f2.size ≤ 1073741824
  b2 : t.size ≤ 1073741824
  vt : Lib.validD t.data.toList = true
theorem InsOk.each {x : G} {t : ByteArray} (h : InsOk x t) : ∀ s ∈ x.f3, 0 < s.f0 ∧ 0 ≤ s.f1 ∧ s.f1 < s.f2 ∧ s.f2 ≤ cnt x.f2 := ok_each (Mk.right_iff.1 (okB_true h.v).2).1
theorem InsOk.cnt {x : G} {t : ByteArray} (h : InsOk x t) : (0 ≤ Seg.cnt x.f2 ∧ Seg.cnt x.f2 ≤ 1073741824) ∧ 0 ≤ Seg.cnt t ∧ Seg.cnt t ≤ 1073741824 := by
  have h1 := cnt_in (okB_true h.v).1 h.z.s2
  have h2 := cnt_in h.vt (by have := h.b2; omega)
  have := h.b1
  have := h.b2
  omega
set_option maxRecDepth 1000000 in
set_option maxHeartbeats 4000000 in
theorem segIns_calls (x : G) (p A : Option Addr) (c : Nat) (B : Option Addr) (d : Nat) (q : Option Addr) (t : ByteArray) (a m quota : Int) (w : World) (hs : SP w x p A c B d) (hq : Rp w q t) (ho : InsOk x t) :
    Calls Tryd.prog 13 #[.agg (sgC x p A c B d), .int .i64 a, .pointer q, .int .i64 m, .int .i64 quota] w fun e w' => if quota < (x.f2.size : Int) + (t.size : Int) then e = .returned (.tuple #[.agg (sgC x p A c B d), .bool false]) ∧ Below w.heap.size w w' else RetSeg (insG x a t m) w e w' := by
  have HS := Lib.hid hs
  have HQ := Lib.hid hq
  have HO := Lib.hid ho
  have ws := IntWalk.i64_in ((x.f2.size : Int) + (t.size : Int)) (by have := ho.b1; have := ho.b2; omega)
  clear hs hq ho
  by_cases hg : quota < (x.f2.size : Int) + (t.size : Int)
  · simp only [if_pos hg]
    go_enter Tryd.func13, Tryd.ntmps13
    go_upto_region 1 with fail
    refine gen2 (φ := fun W => Code.wp _ _ _ _ W) (P := fun W => IZ w w.heap.size (w.heap.size + 1) x p A c B d W) ⟨below_alloc (below_alloc (Below.refl _ _) _) _, Nat.le_refl _, by omega, by omega, blk_alloc (blk_new w _) _, blk_newS (by simp), HS.out.below (below_alloc (below_alloc (Below.refl _ _) _) _)⟩ ?_
    intro V0 hV0
    have Z0 := Lib.hid hV0
    have x2 := (blk_cell hV0.h5 2).trans rfl
    clear hV0
    have dg : decide (quota < (x.f2.size : Int) + (t.size : Int)) = true := by simpa using hg
    have x0 := (blk_cell Z0.out.h5 0).trans rfl
    have x1 := (blk_cell Z0.out.h5 1).trans rfl
    have x3 := (blk_cell Z0.out.h5 3).trans rfl
    have x4 := (blk_cell Z0.out.h5 4).trans rfl
    have r0 := (blk_cell Z0.out.h10 0).trans rfl
    have z0 := blk_frozen Z0.out.h10 0
    have r1 := (blk_cell Z0.out.h10 1).trans rfl
    have z1 := blk_frozen Z0.out.h10 1
    have r2 := (blk_cell Z0.out.h10 2).trans rfl
    have z2 := blk_frozen Z0.out.h10 2
    have r3 := (blk_cell Z0.out.h10 3).trans rfl
    have z3 := blk_frozen Z0.out.h10 3
    have r4 := (blk_cell Z0.out.h10 4).trans rfl
    have z4 := blk_frozen Z0.out.h10 4
    go_wp2_with fail
    (go_at_call 41; refine (bytes_rp Z0.out.sp.rp).mono ?_; rintro e w1 ⟨rfl, rfl⟩)
    go_wp2_with fail
    (go_at_call 41; refine (bytes_rp (HQ.out.below Z0.out.b)).mono ?_; rintro e w1 ⟨rfl, rfl⟩)
    go_wp2
    refine bodyPost_ret (results_ct rfl _ _ (w.heap.size + 1) 31 (sgC x p A c B d) (0, 0) _ rfl (by simpa using Z0.out.out5.1.2) Tryd.underlying31 rfl (by kernel_rfl)) rfl ?_
    exact ⟨rfl, Z0.out.out5.2⟩
  · simp only [if_neg hg]
    go_enter Tryd.func13, Tryd.ntmps13
    go_upto_region 1 with fail
    refine gen2 (φ := fun W => Code.wp _ _ _ _ W) (P := fun W => IZ w w.heap.size (w.heap.size + 1) x p A c B d W) ⟨below_alloc (below_alloc (Below.refl _ _) _) _, Nat.le_refl _, by omega, by omega, blk_alloc (blk_new w _) _, blk_newS (by simp), HS.out.below (below_alloc (below_alloc (Below.refl _ _) _) _)⟩ ?_
    intro V0 hV0
    have Z0 := Lib.hid hV0
    have x2 := (blk_cell hV0.h5 2).trans rfl
    clear hV0
    have dg : decide (quota < (x.f2.size : Int) + (t.size : Int)) = false := by simpa using hg
    go_wp2_with fail
    (go_at_call 41; refine (bytes_rp Z0.out.sp.rp).mono ?_; rintro e w1 ⟨rfl, rfl⟩)
    go_wp2_with fail
    (go_at_call 41; refine (bytes_rp (HQ.out.below Z0.out.b)).mono ?_; rintro e w1 ⟨rfl, rfl⟩)
    have x0 := (blk_cell Z0.out.h5 0).trans rfl
    have x1 := (blk_cell Z0.out.h5 1).trans rfl
    have x3 := (blk_cell Z0.out.h5 3).trans rfl
    have x4 := (blk_cell Z0.out.h5 4).trans rfl
    obtain ⟨a1, ha1⟩ : ∃ z, z = clampI (cnt x.f2) a := ⟨_, rfl⟩
    have HA := Lib.hid ha1
    have HC := Lib.hid (clamp_in (a := a) HO.out.cnt.1.1)
    rw [← ha1] at HC
    clear ha1
    go_upto_region 4 with (go_at_call 42; refine (clampG_calls x p A c B d a _ Z0.out.sp.rp HO.out.z.s2).mono ?_; rw [← HA.out]; rintro e w1 ⟨rfl, hb1⟩; have Z1 := Lib.hid (Z0.out.next hb1); clear hb1)
    clear x0 x1 x2 x3 x4
    obtain ⟨k, hk⟩ : ∃ k, k = cnt t := ⟨_, rfl⟩
    have HK := Lib.hid hk
    obtain ⟨pl, hpl⟩ : ∃ l, l = putL a1 k m x.f3 := ⟨_, rfl⟩
    obtain ⟨nz, hnz⟩ : ∃ l, l = normY (x.f4.map (Mk.mvY (Mk.toP a1 k))) := ⟨_, rfl⟩
    have HPL := Lib.hid hpl
    have HNZ := Lib.hid hnz
    have x3 := (blk_cell Z1.out.h5 3).trans rfl
    have x4 := (blk_cell Z1.out.h5 4).trans rfl
    clear hk hpl hnz Z0
    refine wp_region_noPanic ?_
    refine wp_region_to (S := fun w' : World => w'.cell? ⟨w.heap.size, 3, none⟩ = some (.slice A x.f3.length c) ∧ w'.cell? ⟨w.heap.size, 4, none⟩ = some (.slice B x.f4.length d)) 8 ?hm_g ?_
    case hm_g => kernel_rfl
    have hHeld_g : (fun w' : World => w'.cell? ⟨w.heap.size, 3, none⟩ = some (.slice A x.f3.length c) ∧ w'.cell? ⟨w.heap.size, 4, none⟩ = some (.slice B x.f4.length d)) _ := ⟨pw_cell_below (w := w1) (by with_reducible repeat (first | exact Below.refl _ _ | apply pw_below_drewN | apply Below.drew)) x3, pw_cell_below (w := w1) (by with_reducible repeat (first | exact Below.refl _ _ | apply pw_below_drewN | apply Below.drew)) x4⟩
    refine HeldTo.take (i := 0) (oi := ?og0) (v := ?vg0) ?hi_g0 ?k1_g0 ?kz_g0 (fun _ _ _ h => h) ?k2_g0 ?k3_g0 (Or.inl ⟨?g_g0, ?y_g0⟩) hHeld_g ?r_g0
    case hi_g0 => (simp only [List.getElem?_toArray, List.getElem?_cons_succ, List.getElem?_cons_zero]; rfl)
    case k1_g0 => kernel_rfl
    case kz_g0 => kernel_rfl
    case k2_g0 => kernel_rfl
    case k3_g0 => kernel_rfl
    case g_g0 => rfl
    case y_g0 => (intro w hSw; (try dsimp only at hSw); first | (go_simp; done) | (go_simp; with_reducible rfl))
    (try simp only [Act.put, List.setIfInBounds_toArray, List.set_cons_zero, List.set_cons_succ])
    refine HeldTo.take (i := 1) (oi := ?og1) (v := ?vg1) ?hi_g1 ?k1_g1 ?kz_g1 (fun _ _ _ h => h) ?k2_g1 ?k3_g1 (Or.inl ⟨?g_g1, ?y_g1⟩) hHeld_g ?r_g1
    case hi_g1 => (simp only [List.getElem?_toArray, List.getElem?_cons_succ, List.getElem?_cons_zero]; rfl)
    case k1_g1 => kernel_rfl
    case kz_g1 => kernel_rfl
    case k2_g1 => kernel_rfl
    case k3_g1 => kernel_rfl
    case g_g1 => rfl
    case y_g1 => (intro w hSw; (try dsimp only at hSw); first | (go_simp; done) | (go_simp; with_reducible rfl))
    (try simp only [Act.put, List.setIfInBounds_toArray, List.set_cons_zero, List.set_cons_succ])
    refine HeldTo.take (i := 2) (oi := ?og2) (v := ?vg2) ?hi_g2 ?k1_g2 ?kz_g2 (fun _ _ _ h => h) ?k2_g2 ?k3_g2 (Or.inl ⟨?g_g2, ?y_g2⟩) hHeld_g ?r_g2
    case hi_g2 => (simp only [List.getElem?_toArray, List.getElem?_cons_succ, List.getElem?_cons_zero]; rfl)
    case k1_g2 => kernel_rfl
    case kz_g2 => kernel_rfl
    case k2_g2 => kernel_rfl
    case k3_g2 => kernel_rfl
    case g_g2 => rfl
    case y_g2 => (intro w hSw; (try dsimp only at hSw); first | (go_simp; done) | (go_simp; with_reducible rfl))
    (try simp only [Act.put, List.setIfInBounds_toArray, List.set_cons_zero, List.set_cons_succ])
    refine HeldTo.take (i := 3) (oi := ?og3) (v := ?vg3) ?hi_g3 ?k1_g3 ?kz_g3 (fun _ _ _ h => h) ?k2_g3 ?k3_g3 (Or.inl ⟨?g_g3, ?y_g3⟩) hHeld_g ?r_g3
    case hi_g3 => (simp only [List.getElem?_toArray, List.getElem?_cons_succ, List.getElem?_cons_zero]; rfl)
    case k1_g3 => kernel_rfl
    case kz_g3 => kernel_rfl
    case k2_g3 => kernel_rfl
    case k3_g3 => kernel_rfl
    case g_g3 => rfl
    case y_g3 => (intro w hSw; (try dsimp only at hSw); first | (go_simp; done) | (go_simp; with_reducible rfl))
    (try simp only [Act.put, List.setIfInBounds_toArray, List.set_cons_zero, List.set_cons_succ])
    refine HeldTo.take (i := 5) (oi := ?og5) (v := ?vg5) ?hi_g5 ?k1_g5 ?kz_g5 (fun _ _ _ h => h) ?k2_g5 ?k3_g5 (Or.inl ⟨?g_g5, ?y_g5⟩) hHeld_g ?r_g5
    case hi_g5 => (simp only [List.getElem?_toArray, List.getElem?_cons_succ, List.getElem?_cons_zero]; rfl)
    case k1_g5 => kernel_rfl
    case kz_g5 => kernel_rfl
    case k2_g5 => kernel_rfl
    case k3_g5 => kernel_rfl
    case g_g5 => rfl
    case y_g5 => (intro w hSw; (try dsimp only at hSw); first | (go_simp; done) | (go_simp; with_reducible rfl))
    (try simp only [Act.put, List.setIfInBounds_toArray, List.set_cons_zero, List.set_cons_succ])
    refine HeldTo.one (i := 4) (o := ?og4) ?k1_g4 ?hi_g4 (fun K hK => ?s_g4)
    case k1_g4 => kernel_rfl
    case hi_g4 => (simp only [List.getElem?_toArray, List.getElem?_cons_succ, List.getElem?_cons_zero]; rfl)
    go_simp
    (go_at_call 36; refine (len_rpb (p := q) (s := t) (HQ.out.below (below_step Z1.out.b (show Below w1.heap.size w1 _ from (by with_reducible repeat (first | exact Below.refl _ _ | apply pw_below_drewN | apply Below.drew))))) (by have := HO.out.b2; omega)).mono ?_; rw [← HK.out]; rintro e w3 ⟨rfl, hb3⟩)
    have B3 := Lib.hid (below_step (show Below w1.heap.size w1 _ from (by with_reducible repeat (first | exact Below.refl _ _ | apply pw_below_drewN | apply Below.drew))) hb3)
    clear hb3
    (try go_wp2_with fail)
    refine hK.out _ _ (Or.inr ⟨pw_cell_below (w := w1) B3.out x3, pw_cell_below (w := w1) B3.out x4⟩) ?_
    clear hK K
    (try simp only [Act.put, List.setIfInBounds_toArray, List.set_cons_zero, List.set_cons_succ])
    refine HeldTo.one (i := 6) (o := ?og6) ?k1_g6 ?hi_g6 (fun K hK => ?s_g6)
    case k1_g6 => kernel_rfl
    case hi_g6 => (simp only [List.getElem?_toArray, List.getElem?_cons_succ, List.getElem?_cons_zero]; rfl)
    go_simp
    (go_at_call 43; refine (Mk.put_calls A c x.f3 B d x.f4 a1 k m _ (Kd.C_below Z1.out.sp.r3 B3.out) Z1.out.sp.c3 (Kd.C_below Z1.out.sp.r4 B3.out) Z1.out.sp.c4 HO.out.z.s3 HO.out.z.s4 (by have := HC.out; have := HO.out.cnt; omega) (by have := HO.out.cnt; rw [HK.out]; omega) (fun s hs => by have := HO.out.each s hs; have := HO.out.cnt; omega)).mono ?_; rw [← HPL.out, ← HNZ.out]; rintro e w4 ⟨A4, c4, B4, d4, e4, m4, n4, hb4⟩)
    subst e4
    have M4 := Lib.hid m4
    have N4 := Lib.hid n4
    have HB4 := Lib.hid hb4
    clear m4 n4 hb4
    (try go_wp2_with fail)
    refine hK.out _ _ (Or.inr ⟨pw_cell_below (w := w1) (below_step B3.out HB4.out) x3, pw_cell_below (w := w1) (below_step B3.out HB4.out) x4⟩) ?_
    clear hK K
    (try simp only [Act.put, List.setIfInBounds_toArray, List.set_cons_zero, List.set_cons_succ])
    refine HeldTo.take (i := 7) (oi := ?og7) (v := ?vg7) ?hi_g7 ?k1_g7 ?kz_g7 (fun _ _ _ h => h) ?k2_g7 ?k3_g7 (Or.inl ⟨?g_g7, ?y_g7⟩) ⟨pw_cell_below (w := w1) (below_step B3.out HB4.out) x3, pw_cell_below (w := w1) (below_step B3.out HB4.out) x4⟩ ?r_g7
    case hi_g7 => (simp only [List.getElem?_toArray, List.getElem?_cons_succ, List.getElem?_cons_zero]; rfl)
    case k1_g7 => kernel_rfl
    case kz_g7 => kernel_rfl
    case k2_g7 => kernel_rfl
    case k3_g7 => kernel_rfl
    case g_g7 => rfl
    case y_g7 => (intro w hSw; (try dsimp only at hSw); first | (go_simp; done) | (go_simp; with_reducible rfl))
    (try simp only [Act.put, List.setIfInBounds_toArray, List.set_cons_zero, List.set_cons_succ])
    refine HeldTo.one (i := 8) (o := ?og8) ?k1_g8 ?hi_g8 (fun K hK => ?s_g8)
    case k1_g8 => kernel_rfl
    case hi_g8 => (simp only [List.getElem?_toArray, List.getElem?_cons_succ, List.getElem?_cons_zero]; rfl)
    have t3 := (blk_cell (blk_below (blk_below Z1.out.h5 B3.out) HB4.out) 3).trans rfl
    have t4 := (blk_cell (blk_below (blk_below Z1.out.h5 B3.out) HB4.out) 4).trans rfl
    have z3 := blk_frozen (blk_below (blk_below Z1.out.h5 B3.out) HB4.out) 3
    have z4 := blk_frozen (blk_below (blk_below Z1.out.h5 B3.out) HB4.out) 4
    go_simp
    refine hK.out _ _ (Or.inl rfl) ?_
    clear hK K
    (try simp only [Act.put, List.setIfInBounds_toArray, List.set_cons_zero, List.set_cons_succ])
    refine HeldTo.done (by kernel_rfl) ?_ _
    refine NoPanic.normal ?_
    refine gen2 (φ := fun W => Exit.then _ _ Exit.normal _ W) (P := fun W => IZ w w.heap.size (w.heap.size + 1) ⟨x.f0, x.f1, x.f2, pl, nz⟩ p A4 c4 B4 d4 W) (Z1.out.marks (below_step B3.out HB4.out) M4.out N4.out) ?_
    intro V2 hV2
    have Z2 := Lib.hid hV2
    have x2 := (blk_cell hV2.h5 2).trans rfl
    clear hV2 t3 t4 z3 z4 x3 x4 Z1 M4 N4 B3 HB4 hHeld_g
    go_upto_region 6 with (go_at_call 44; refine (put_rp a1 (show Rp V2 p x.f2 from Z2.out.sp.rp) (HQ.out.below Z2.out.b) (by have := HO.out.b1; have := HO.out.b2; omega)).mono ?_; rintro e w5 ⟨r, rfl, hr5, hb5⟩; have R5 := Lib.hid hr5; have HB5 := Lib.hid hb5; have u2 := (blk_cell (blk_below Z2.out.h5 hb5) 2).trans rfl; have z2 := blk_frozen (blk_below Z2.out.h5 hb5) 2; clear hr5 hb5)
    refine gen2 (φ := fun W => Code.wp _ _ _ _ W) (P := fun W => IZ w w.heap.size (w.heap.size + 1) ⟨x.f0, x.f1, putT x.f2 a1 t, pl, nz⟩ r A4 c4 B4 d4 W) (Z2.out.text HB5.out R5.out) ?_
    intro V3 hV3
    have Z3 := Lib.hid hV3
    have x0 := (blk_cell hV3.h5 0).trans rfl
    have x1 := (blk_cell hV3.h5 1).trans rfl
    have x2' := (blk_cell hV3.h5 2).trans rfl
    have x3 := (blk_cell hV3.h5 3).trans rfl
    have x4 := (blk_cell hV3.h5 4).trans rfl
    clear hV3 x2 u2 z2 Z2 HB5 R5
    have HI := Lib.hid (show insG x a t m = ⟨x.f0, x.f1, putT x.f2 a1 t, pl, nz⟩ by unfold insG; rw [← HA.out, ← HK.out, ← HPL.out, ← HNZ.out])
    have r0 := (blk_cell Z3.out.h10 0).trans rfl
    have z0 := blk_frozen Z3.out.h10 0
    have r1 := (blk_cell Z3.out.h10 1).trans rfl
    have z1 := blk_frozen Z3.out.h10 1
    have r2 := (blk_cell Z3.out.h10 2).trans rfl
    have z2 := blk_frozen Z3.out.h10 2
    have r3 := (blk_cell Z3.out.h10 3).trans rfl
    have z3 := blk_frozen Z3.out.h10 3
    have r4 := (blk_cell Z3.out.h10 4).trans rfl
    have z4 := blk_frozen Z3.out.h10 4
    go_wp2
    refine bodyPost_ret (results_ct rfl _ _ (w.heap.size + 1) 31 (sgC ⟨x.f0, x.f1, putT x.f2 a1 t, pl, nz⟩ r A4 c4 B4 d4) (0, 0) _ rfl (by simpa using Z3.out.out5.1.2) Tryd.underlying31 rfl (by kernel_rfl)) rfl ?_
    rw [HI.out]
    exact ⟨r, A4, c4, B4, d4, rfl, Z3.out.out5.1.1, Z3.out.out5.2⟩
end Go.Proofs.YtjphmebhofkhcaaDoor.Seg
/- Segments: the walks of the laws' own has, text and loaded. Conditions: texts of at most 2^30 bytes. -/
namespace Go.Proofs.YtjphmebhofkhcaaDoor.Seg
open Go.RowKit Go.Proofs.YtjphmebhofkhcaaDoorPl Go.Proofs.YtjphmebhofkhcaaDoorW.PrintWords Go.Proofs.YtjphmebhofkhcaaDoorW.PrintLast Go.Proofs.YtjphmebhofkhcaaDoorW.PrintMore Go.Proofs.YtjphmebhofkhcaaDoor.Rope Go.Proofs.YtjphmebhofkhcaaDoor.PSegAll Go.Proofs.YtjphmebhofkhcaaDoor.Pure
set_option linter.unusedVariables false
set_option linter.unusedSimpArgs false
/-- What has reads. -/
abbrev HQ (w : World) (x : G) (p A : Option Addr) (c : Nat) (B : Option Addr) (d : Nat) (A2 : Option Addr) (c2 : Nat) (B2 : Option Addr) (d2 : Nat) (V w' : World) : Prop :=
  Q5 V w.heap.size x p A c B d w' ∧ w'.cell? ⟨w.heap.size + 1, 0, none⟩ = some (.int .i64 x.f0) ∧ w'.cell? ⟨w.heap.size + 1, 1, none⟩ = some (.int .i64 x.f1) ∧ w'.cell? ⟨w.heap.size + 1, 2, none⟩ = some (.string x.f2) ∧ w'.cell? ⟨w.heap.size + 1, 3, none⟩ = some (.slice A2 x.f3.length c2) ∧ w'.cell? ⟨w.heap.size + 1, 4, none⟩ = some (.slice B2 x.f4.length d2)
theorem HQ.next {w : World} {x : G} {p A : Option Addr} {c : Nat} {B : Option Addr} {d : Nat} {A2 : Option Addr} {c2 : Nat} {B2 : Option Addr} {d2 : Nat} {V W W' : World} (h : HQ w x p A c B d A2 c2 B2 d2 V W) (hb : Below W.heap.size W W') : HQ w x p A c B d A2 c2 B2 d2 V W' :=
  ⟨Q5.next h.1 hb, pw_cell_below hb h.2.1, pw_cell_below hb h.2.2.1, pw_cell_below hb h.2.2.2.1, pw_cell_below hb h.2.2.2.2.1, pw_cell_below hb h.2.2.2.2.2⟩
theorem HQ.b {w : World} {x : G} {p A : Option Addr} {c : Nat} {B : Option Addr} {d : Nat} {A2 : Option Addr} {c2 : Nat} {B2 : Option Addr} {d2 : Nat} {V W : World} (h : HQ w x p A c B d A2 c2 B2 d2 V W) : Below V.heap.size V W := Q5.b h.1
/-- A segment is laid in a block of its own. -/
abbrev lay5 (W : World) (g : Nat) (y : G) (p A : Option Addr) (c : Nat) (B : Option Addr) (d : Nat) : World := ((((W.setCell ⟨g, 0, none⟩ (.int .i64 y.f0)).setCell ⟨g, 1, none⟩ (.int .i64 y.f1)).setCell ⟨g, 2, none⟩ (.pointer p)).setCell ⟨g, 3, none⟩ (.slice A y.f3.length c)).setCell ⟨g, 4, none⟩ (.slice B y.f4.length d)
theorem lay5_sp {W : World} {g : Nat} {y : G} {p A : Option Addr} {c : Nat} {B : Option Addr} {d : Nat} {z : G} {p' A' : Option Addr} {c' : Nat} {B' : Option Addr} {d' : Nat} (h : SP W z p' A' c' B' d') (hg : W.heap[g]? = some (.cells zC 31 (0, 0))) : SP (lay5 W g y p A c B d) z p' A' c' B' d' ∧ (lay5 W g y p A c B d).heap[g]? = some (.cells (sgC y p A c B d) 31 (0, 0)) := by
  have s := sp_set (sp_set (sp_set (sp_set (sp_set ⟨h, hg⟩ 0 (.int .i64 y.f0)) 1 (.int .i64 y.f1)) 2 (.pointer p)) 3 (.slice A y.f3.length c)) 4 (.slice B y.f4.length d)
  exact ⟨s.1, by simpa using s.2⟩
theorem lay5_below {w W : World} {g : Nat} {y : G} {p A : Option Addr} {c : Nat} {B : Option Addr} {d : Nat} (h : Below w.heap.size w W) (hg : w.heap.size ≤ g) : Below w.heap.size w (lay5 W g y p A c B d) := below_set (below_set (below_set (below_set (below_set h hg) hg) hg) hg) hg
theorem lay5_far {W : World} {g k : Nat} {y : G} {p A : Option Addr} {c : Nat} {B : Option Addr} {d : Nat} (h : g ≠ k) : (lay5 W g y p A c B d).heap[k]? = W.heap[k]? := by
  have e := fun (V : World) (j : Nat) (u : Value) => Below.heap_setCell V ⟨g, j, none⟩ u k (fun e => h e.symm)
  exact (e _ _ _).trans ((e _ _ _).trans ((e _ _ _).trans ((e _ _ _).trans (e _ _ _))))
/-- The law's own segment of a text. -/
def tG (s : ByteArray) : G := ⟨1, 2, s, [], []⟩
theorem ins_text {s : ByteArray} (hv : Lib.validD s.data.toList = true) : insG (nG 1 2) 0 s 0 = tG s := by
  have hv0 : Lib.validD (ByteArray.mk #[]).data.toList = true := by decide +kernel
  have h0 := (cnt_in hv0 (by decide)).1
  have e1 : clampI (cnt (nG 1 2).f2) 0 = 0 := by
    unfold clampI
    rw [if_neg (by decide : ¬ (0 : Int) < 0)]
    rw [if_neg]
    show ¬ cnt (ByteArray.mk #[]) < 0
    omega
  have el : lets (ByteArray.mk #[]) = [] := lets_eq (fun c hc => by cases hc) rfl
  unfold insG tG
  rw [e1]
  show (⟨1, 2, putT (ByteArray.mk #[]) 0 s, putL 0 (cnt s) 0 [], normY (([] : List S70).map (Mk.mvY (Mk.toP 0 (cnt s))))⟩ : G) = ⟨1, 2, s, [], []⟩
  have e2 : putT (ByteArray.mk #[]) 0 s = s := by
    unfold putT
    rw [el]
    simp only [List.take_nil, List.drop_nil, List.nil_append, List.append_nil]
    exact ofL_lets hv
  have e3 : putL 0 (cnt s) 0 [] = [] := by
    unfold putL putGo freshS
    rw [if_neg (by decide), if_pos (by decide)]
    exact addL_none _ _ (Int.le_refl _)
  rw [e2, e3]
  rfl
theorem ins_ok (s : ByteArray) (hv : Lib.validD s.data.toList = true) (hs : s.size ≤ 1073741824) : InsOk (nG 1 2) s := by
  refine ⟨⟨by decide, by decide, by decide⟩, ?_, by decide, hs, hv⟩
  unfold okB
  have hv0 : Lib.validD (nG 1 2).f2.data.toList = true := by decide +kernel
  rw [hv0]
  rfl
set_option maxRecDepth 1000000 in
set_option maxHeartbeats 4000000 in
theorem text5_calls (s : ByteArray) (w : World) (hT : Tabs w) (hv : Lib.validD s.data.toList = true) (hs : s.size ≤ 1000) :
    Calls Tryd.prog 9 #[.string s] w fun e w' => ∃ p A c B d, e = .returned (.agg (sgC (tG s) p A c B d)) ∧ SP w' (tG s) p A c B d ∧ Below w.heap.size w w' := by
  have HT := Lib.hid hT
  have HV := Lib.hid hv
  have HO := Lib.hid (ins_ok s hv (by omega))
  have HI := Lib.hid (ins_text hv)
  clear hT hv
  go_enter Tryd.func9, Tryd.ntmps9
  go_upto_region 1 with fail
  refine gen2 (φ := fun W => Code.wp _ _ _ _ W) (P := fun W => Below w.heap.size w W ∧ W.heap[w.heap.size]? = some (.cells zC 31 (0, 0))) ⟨below_alloc (Below.refl _ _) _, blk_new w _⟩ ?_
  rintro V0 ⟨hb0, h20⟩
  have B0 := Lib.hid hb0
  have X2 := Lib.hid h20
  clear hb0 h20
  go_upto_region 2 with (first
    | (go_at_call 31; refine (segNew_calls 1 2 _).mono ?_; rintro e w1 ⟨rfl, hb1⟩; have B1 := Lib.hid hb1; clear hb1)
    | (go_at_call 14; refine (of5_calls s _ (by omega) (HT.out.below (below_step B0.out B1.out)) HV.out).mono ?_; rintro e w2 ⟨q, rfl, hq, hb2⟩; have HQ := Lib.hid hq; have B2 := Lib.hid (below_step B1.out hb2); clear hq hb2)
    | (go_at_call 13; refine (segIns_calls (nG 1 2) none none 0 none 0 q s 0 0 1000 _ (nG_sp 1 2 _) HQ.out HO.out).mono ?_; rw [HI.out]; rintro e w3 h3; rw [if_neg (by show ¬ ((1000 : Int) < ((0 : Nat) : Int) + (s.size : Int)); omega)] at h3; obtain ⟨p, A, c, B, d, e3, s3, hb3⟩ := h3; subst e3; have S3 := Lib.hid s3; have B3 := Lib.hid (below_step B2.out hb3); clear s3 hb3)
    | ((with_reducible refine gate_dst (N := 3) rfl ?_); refine box_event ?hg (N := 3) ?hd (cs := zC) (t := 31) ?hr ?_; (case hd => rfl); (case hg => rfl); (case hr => first | (go_simp; done) | (go_simp; rfl)); intro gS hgS wS hxS hbS; have GS := Lib.hid (show w.heap.size ≤ gS by rw [hgS]; exact (below_step B0.out B3.out).size); have GN := Lib.hid (show gS ≠ w.heap.size by rw [hgS]; exact Nat.ne_of_gt (blk_lt (blk_below X2.out B3.out))); have X2S := Lib.hid (blk_below (blk_below X2.out B3.out) hbS); have XS := Lib.hid hxS; have BS := Lib.hid (below_step (below_step B0.out B3.out) hbS); have SS := Lib.hid (S3.out.below hbS); have q0 := (blk_cell hxS 0).trans rfl; have q1 := (blk_cell hxS 1).trans rfl; have q2 := (blk_cell hxS 2).trans rfl; have q3 := (blk_cell hxS 3).trans rfl; have q4 := (blk_cell hxS 4).trans rfl; have z0 := blk_frozen hxS 0; have z1 := blk_frozen hxS 1; have z2 := blk_frozen hxS 2; have z3 := blk_frozen hxS 3; have z4 := blk_frozen hxS 4; clear hgS hxS hbS))
  refine gen2 (φ := fun W => Code.wp _ _ _ _ W) (P := fun W => Below w.heap.size w W ∧ (SP W (tG s) p A c B d ∧ W.heap[gS]? = some (.cells (sgC (tG s) p A c B d) 31 (0, 0))) ∧ W.heap[w.heap.size]? = some (.cells zC 31 (0, 0))) ⟨lay5_below BS.out GS.out, lay5_sp SS.out XS.out, (lay5_far GN.out).trans X2S.out⟩ ?_
  rintro V ⟨hb, ⟨hs, hg⟩, h2⟩
  have BV := Lib.hid hb
  have SV := Lib.hid hs
  have X2V := Lib.hid h2
  have s0 := (blk_cell hg 0).trans rfl
  have s1 := (blk_cell hg 1).trans rfl
  have s2 := (blk_cell hg 2).trans rfl
  have s3 := (blk_cell hg 3).trans rfl
  have s4 := (blk_cell hg 4).trans rfl
  clear hb hs hg h2 q0 q1 q2 q3 q4 z0 z1 z2 z3 z4
  have r0 := (blk_cell X2V.out 0).trans rfl
  have z0 := blk_frozen X2V.out 0
  have r1 := (blk_cell X2V.out 1).trans rfl
  have z1 := blk_frozen X2V.out 1
  have r2 := (blk_cell X2V.out 2).trans rfl
  have z2 := blk_frozen X2V.out 2
  have r3 := (blk_cell X2V.out 3).trans rfl
  have z3 := blk_frozen X2V.out 3
  have r4 := (blk_cell X2V.out 4).trans rfl
  have z4 := blk_frozen X2V.out 4
  go_wp2
  have L := lay5_sp (y := tG s) (p := p) (A := A) (c := c) (B := B) (d := d) SV.out X2V.out
  refine bodyPost_ret (results_cell_row rfl _ _ w.heap.size 31 (sgC (tG s) p A c B d) (0, 0) _ rfl (by simpa using L.2) Tryd.underlying31 rfl (by kernel_rfl)) rfl ?_
  exact ⟨p, A, c, B, d, rfl, L.1, lay5_below BV.out (Nat.le_refl _)⟩
end Go.Proofs.YtjphmebhofkhcaaDoor.Seg
/- Segments: the walk of the law SegmentLoads. Conditions: none beside the row's. -/
namespace Go.Proofs.YtjphmebhofkhcaaDoor.Seg
open Go.RowKit Go.Proofs.YtjphmebhofkhcaaDoorPl Go.Proofs.YtjphmebhofkhcaaDoorW.PrintWords Go.Proofs.YtjphmebhofkhcaaDoorW.PrintLast Go.Proofs.YtjphmebhofkhcaaDoorW.PrintMore Go.Proofs.YtjphmebhofkhcaaDoor.Rope Go.Proofs.YtjphmebhofkhcaaDoor.PSegAll Go.Proofs.YtjphmebhofkhcaaDoor.Pure
set_option linter.unusedVariables false
set_option linter.unusedSimpArgs false
abbrev lay0 (W : World) (g : Nat) : World := ((((W.setCell ⟨g, 0, none⟩ (.int .i64 0)).setCell ⟨g, 1, none⟩ (.int .i64 0)).setCell ⟨g, 2, none⟩ (.pointer none)).setCell ⟨g, 3, none⟩ (.slice none 0 0)).setCell ⟨g, 4, none⟩ (.slice none 0 0)
theorem lay0_sp {W : World} {g : Nat} (hg : W.heap[g]? = some (.cells zC 31 (0, 0))) : (lay0 W g).heap[g]? = some (.cells zC 31 (0, 0)) := by
  have s := blk_set (blk_set (blk_set (blk_set (blk_set hg 0 (.int .i64 0)) 1 (.int .i64 0)) 2 (.pointer none)) 3 (.slice none 0 0)) 4 (.slice none 0 0)
  simpa using s
theorem lay0_below {w W : World} {g : Nat} (h : Below w.heap.size w W) (hg : w.heap.size ≤ g) : Below w.heap.size w (lay0 W g) := below_set (below_set (below_set (below_set (below_set h hg) hg) hg) hg) hg
def smallB (x : G) : Bool := decide (x.f2.size ≤ 1500) && decide (x.f3.length ≤ 300) && decide (x.f4.length ≤ 300)
theorem small_f (x : G) : chancellaw05_small.f x.f0 x.f1 x.f2 x.f3 x.f4 = some (smallB x) := by
  unfold chancellaw05_small.f smallB
  by_cases h1 : x.f2.size ≤ 1500
  · rw [if_pos (by omega), decide_eq_true h1]
    by_cases h2 : x.f3.length ≤ 300
    · rw [if_pos (by omega), decide_eq_true h2, Bool.true_and, Bool.true_and]
      congr 1
      exact decide_eq_decide.2 (by omega)
    · rw [if_neg (by omega), decide_eq_false h2]
      rfl
  · rw [if_neg (by omega), decide_eq_false h1]
    rfl
theorem small5_calls (x : G) (A : Option Addr) (c : Nat) (B : Option Addr) (d : Nat) (w : World) (h : GR w x A c B d) :
    Calls Tryd.prog 10 #[.agg (gC x A c B d)] w fun e w' => e = .returned (.bool (smallB x)) ∧ Below w.heap.size w w' := chancellaw05_small.calls x.f0 x.f1 x.f2 A c x.f3 B d x.f4 (smallB x) w h.r3 h.c3 h.r4 h.c4 (small_f x)
theorem small_iff {x : G} (h : smallB x = true) : x.f2.size ≤ 1500 ∧ x.f3.length ≤ 300 ∧ x.f4.length ≤ 300 := by
  unfold smallB at h
  rw [Bool.and_eq_true, Bool.and_eq_true, decide_eq_true_eq, decide_eq_true_eq, decide_eq_true_eq] at h
  exact ⟨h.1.1, h.1.2, h.2⟩
theorem small_sz {x : G} (h : smallB x = true) : Sz x := by
  obtain ⟨h1, h2, h3⟩ := small_iff h
  exact ⟨by omega, by omega, by omega⟩
end Go.Proofs.YtjphmebhofkhcaaDoor.Seg
/- Segments: the walks of Has, and of the reference's Insert. Conditions: texts of at most 2^30 bytes. -/
namespace Go.Proofs.YtjphmebhofkhcaaDoor.Seg
open Go.RowKit Go.Proofs.YtjphmebhofkhcaaDoorPl Go.Proofs.YtjphmebhofkhcaaDoorW.PrintWords Go.Proofs.YtjphmebhofkhcaaDoorW.PrintLast Go.Proofs.YtjphmebhofkhcaaDoorW.PrintMore Go.Proofs.YtjphmebhofkhcaaDoor.Rope Go.Proofs.YtjphmebhofkhcaaDoor.PSegAll Go.Proofs.YtjphmebhofkhcaaDoor.Pure
set_option linter.unusedVariables false
set_option linter.unusedSimpArgs false
attribute [local go_sem] max2_int min2_int max_two min_two
def hasG (x : G) (m : Int) : Bool := decide ((0 : Int) < ((ofSpans x.f3 m).length : Int) + ((ofSites x.f4 m).length : Int))
set_option maxRecDepth 100000 in
set_option maxHeartbeats 1600000 in
theorem segHas_calls (x : G) (p A : Option Addr) (c : Nat) (B : Option Addr) (d : Nat) (m : Int) (w : World) (hr : GR w x A c B d) (h : Sz x) :
    Calls Tryd.prog 17 #[.agg (sgC x p A c B d), .int .i64 m] w fun e w' => e = .returned (.bool (hasG x m)) ∧ Below w.heap.size w w' := by
  have HR := Lib.hid hr
  have HZ := Lib.hid h
  obtain ⟨a, ha⟩ : ∃ a, a = ofSpans x.f3 m := ⟨_, rfl⟩
  obtain ⟨b, hb⟩ : ∃ b, b = ofSites x.f4 m := ⟨_, rfl⟩
  have l3 : a.length ≤ 1099511627776 := by rw [ha]; exact Nat.le_trans (List.length_filter_le _ _) h.s3
  have l4 : b.length ≤ 1099511627776 := by
    rw [hb]
    unfold ofSites
    rw [List.length_map]
    exact Nat.le_trans (List.length_filter_le _ _) h.s4
  obtain ⟨k, hk⟩ := Go.Proofs.YtjphmebhofkhcaaDoorW.PrintWords.Ev.rounds (marks_Of_ev x.f3 x.f4 m (by have := h.s3; omega) (by have := h.s4; omega))
  rw [← ha, ← hb] at hk
  have HK := Lib.hid hk
  obtain ⟨q, hq⟩ : ∃ q, q = hasG x m := ⟨_, rfl⟩
  rw [← hq]
  have HQ := Lib.hid hq
  have HA := Lib.hid ha
  have HB := Lib.hid hb
  clear hr h hq hk ha hb
  go_enter Tryd.func17, Tryd.ntmps17
  go_wp2_with fail
  have B0 := Lib.hid (below_alloc (Below.refl w.heap.size w) (.cells (sgC x p A c B d) 31))
  (go_at_call 47; refine (marks_Of.calls k A c x.f3 B d x.f4 m a b _ (Kd.C_below HR.out.r3 B0.out) HR.out.c3 (Kd.C_below HR.out.r4 B0.out) HR.out.c4 HK.out).mono ?_; rintro e w1 ⟨v0, v1, rfl, r0, r1, hb1⟩; obtain ⟨A1, c1, e1⟩ := Kd.R_slice r0; obtain ⟨A2, c2, e2⟩ := Kd.R_slice r1; subst e1; subst e2)
  have B1 := Lib.hid (below_step B0.out hb1)
  clear hb1 B0 r0 r1
  unfold hasG at HQ
  rw [← HA.out, ← HB.out] at HQ
  clear HA HB HK
  generalize a.length = n at l3 HQ
  generalize b.length = o at l4 HQ
  go_wp2
  go_ret
  exact ⟨by rw [HQ.out]; rfl, B1.out⟩
end Go.Proofs.YtjphmebhofkhcaaDoor.Seg
/- Segments: the walk of the laws' own loaded; Insert's answer on both sides. Conditions: texts of at most 2^30 bytes. -/
namespace Go.Proofs.YtjphmebhofkhcaaDoor.Seg
open Go.RowKit Go.Proofs.YtjphmebhofkhcaaDoorPl Go.Proofs.YtjphmebhofkhcaaDoorW.PrintWords Go.Proofs.YtjphmebhofkhcaaDoorW.PrintLast Go.Proofs.YtjphmebhofkhcaaDoorW.PrintMore Go.Proofs.YtjphmebhofkhcaaDoor.Rope Go.Proofs.YtjphmebhofkhcaaDoor.PSegAll Go.Proofs.YtjphmebhofkhcaaDoor.Pure
set_option linter.unusedVariables false
set_option linter.unusedSimpArgs false
abbrev D := S37
abbrev dC (y : D) : Array Value := #[.int .i64 y.f0, .int .i64 y.f1, .int .i64 y.f2, .int .i64 y.f3, .string y.f4]
noncomputable def loadOk (x : G) (t : ByteArray) : Bool := smallB x && okB x && decide (t.size ≤ 1500) && Lib.validD t.data.toList
/-- Three blocks of loaded's own. -/
structure LZ (w : World) (x : G) (A : Option Addr) (c : Nat) (B : Option Addr) (d : Nat) (y : D) (W : World) : Prop where
  b : Below w.heap.size w W
  h2 : W.heap[w.heap.size]? = some (.cells (gC x A c B d) 25 (0, 0))
  h3 : W.heap[w.heap.size + 1]? = some (.cells (dC y) 37 (0, 0))
  h4 : W.heap[w.heap.size + 2]? = some (.cells zC 31 (0, 0))
theorem LZ.next {w W W' : World} {x : G} {A : Option Addr} {c : Nat} {B : Option Addr} {d : Nat} {y : D} (h : LZ w x A c B d y W) (hb : Below W.heap.size W W') : LZ w x A c B d y W' := ⟨below_step h.b hb, blk_below h.h2 hb, blk_below h.h3 hb, blk_below h.h4 hb⟩
set_option maxRecDepth 1000000 in
set_option maxHeartbeats 8000000 in
theorem loaded5_calls (x : G) (A : Option Addr) (c : Nat) (B : Option Addr) (d : Nat) (y : D) (w : World) (hT : Tabs w) (hr : GR w x A c B d) (hy : y.f4.size ≤ 140737488355328) :
    Calls Tryd.prog 18 #[.agg (gC x A c B d), .agg (dC y)] w fun e w' => if loadOk x y.f4 = true then RetSeg x w e w' else e = .returned (.tuple #[.agg zC, .bool false]) ∧ Below w.heap.size w w' := by
  have HT := Lib.hid hT
  have HR := Lib.hid hr
  clear hT hr
  obtain ⟨sb, hsb⟩ : ∃ b, b = smallB x := ⟨_, rfl⟩
  obtain ⟨ob, hob⟩ : ∃ b, b = okB x := ⟨_, rfl⟩
  obtain ⟨vb, hvb⟩ : ∃ b, b = Lib.validD y.f4.data.toList := ⟨_, rfl⟩
  unfold loadOk
  rw [← hsb, ← hob, ← hvb]
  have HSB := Lib.hid hsb
  have HOB := Lib.hid hob
  have HVB := Lib.hid hvb
  clear hsb hob hvb
  cases sb with
  | false =>
    simp only [Bool.false_and, Bool.false_eq_true, if_false]
    go_enter Tryd.func18, Tryd.ntmps18
    go_upto_region 1 with fail
    refine gen2 (φ := fun W => Code.wp _ _ _ _ W) (P := fun W => LZ w x A c B d y W) ⟨below_alloc (below_alloc (below_alloc (Below.refl _ _) _) _) _, blk_alloc (blk_alloc (blk_new w _) _) _, blk_alloc (blk_newS (by simp)) _, blk_newS (by simp)⟩ ?_
    intro V0 hV0
    have ZZ := Lib.hid hV0
    have d4 := (blk_cell hV0.h3 4).trans rfl
    clear hV0
    have x0 := (blk_cell ZZ.out.h2 0).trans rfl
    have x1 := (blk_cell ZZ.out.h2 1).trans rfl
    have x2 := (blk_cell ZZ.out.h2 2).trans rfl
    have x3 := (blk_cell ZZ.out.h2 3).trans rfl
    have x4 := (blk_cell ZZ.out.h2 4).trans rfl
    go_upto_region 2 with (first | (go_at_call 10; refine (small5_calls x A c B d _ (HR.out.below ZZ.out.b)).mono ?_; rw [← HSB.out]; rintro e wn ⟨rfl, hb⟩; have ZN := Lib.hid (ZZ.out.next hb); clear ZZ; have ZZ := ZN; clear ZN hb; clear x0 x1 x2 x3 x4 d4; have d4 := (blk_cell ZZ.out.h3 4).trans rfl; have x0 := (blk_cell ZZ.out.h2 0).trans rfl; have x1 := (blk_cell ZZ.out.h2 1).trans rfl; have x2 := (blk_cell ZZ.out.h2 2).trans rfl; have x3 := (blk_cell ZZ.out.h2 3).trans rfl; have x4 := (blk_cell ZZ.out.h2 4).trans rfl) | (go_at_call 12; refine (right5_calls x A c B d _ (HR.out.below ZZ.out.b) HZ.out).mono ?_; rw [← HOB.out]; rintro e wn ⟨rfl, hb⟩; have ZN := Lib.hid (ZZ.out.next hb); clear ZZ; have ZZ := ZN; clear ZN hb; clear x0 x1 x2 x3 x4 d4; have d4 := (blk_cell ZZ.out.h3 4).trans rfl; have x0 := (blk_cell ZZ.out.h2 0).trans rfl; have x1 := (blk_cell ZZ.out.h2 1).trans rfl; have x2 := (blk_cell ZZ.out.h2 2).trans rfl; have x3 := (blk_cell ZZ.out.h2 3).trans rfl; have x4 := (blk_cell ZZ.out.h2 4).trans rfl) | (go_at_call 37; refine (refRight_calls y.f4 _ (by omega)).mono ?_; rw [← HVB.out]; rintro e wn ⟨rfl, hb⟩; have ZN := Lib.hid (ZZ.out.next hb); clear ZZ; have ZZ := ZN; clear ZN hb; clear x0 x1 x2 x3 x4 d4; have d4 := (blk_cell ZZ.out.h3 4).trans rfl; have x0 := (blk_cell ZZ.out.h2 0).trans rfl; have x1 := (blk_cell ZZ.out.h2 1).trans rfl; have x2 := (blk_cell ZZ.out.h2 2).trans rfl; have x3 := (blk_cell ZZ.out.h2 3).trans rfl; have x4 := (blk_cell ZZ.out.h2 4).trans rfl))
    have r0 := (blk_cell ZZ.out.h4 0).trans rfl
    have z0 := blk_frozen ZZ.out.h4 0
    have r1 := (blk_cell ZZ.out.h4 1).trans rfl
    have z1 := blk_frozen ZZ.out.h4 1
    have r2 := (blk_cell ZZ.out.h4 2).trans rfl
    have z2 := blk_frozen ZZ.out.h4 2
    have r3 := (blk_cell ZZ.out.h4 3).trans rfl
    have z3 := blk_frozen ZZ.out.h4 3
    have r4 := (blk_cell ZZ.out.h4 4).trans rfl
    have z4 := blk_frozen ZZ.out.h4 4
    go_wp2
    refine bodyPost_ret (results_ct rfl _ _ (w.heap.size + 2) 31 zC (0, 0) _ rfl (by simpa using lay0_sp ZZ.out.h4) Tryd.underlying31 rfl (by kernel_rfl)) rfl ?_
    exact ⟨rfl, lay0_below ZZ.out.b (by omega)⟩
  | true =>
    have HZ := Lib.hid (small_sz HSB.out.symm)
    cases ob with
    | false =>
      simp only [Bool.and_false, Bool.false_and, Bool.false_eq_true, if_false]
      go_enter Tryd.func18, Tryd.ntmps18
      go_upto_region 1 with fail
      refine gen2 (φ := fun W => Code.wp _ _ _ _ W) (P := fun W => LZ w x A c B d y W) ⟨below_alloc (below_alloc (below_alloc (Below.refl _ _) _) _) _, blk_alloc (blk_alloc (blk_new w _) _) _, blk_alloc (blk_newS (by simp)) _, blk_newS (by simp)⟩ ?_
      intro V0 hV0
      have ZZ := Lib.hid hV0
      have d4 := (blk_cell hV0.h3 4).trans rfl
      clear hV0
      have x0 := (blk_cell ZZ.out.h2 0).trans rfl
      have x1 := (blk_cell ZZ.out.h2 1).trans rfl
      have x2 := (blk_cell ZZ.out.h2 2).trans rfl
      have x3 := (blk_cell ZZ.out.h2 3).trans rfl
      have x4 := (blk_cell ZZ.out.h2 4).trans rfl
      go_upto_region 2 with (first | (go_at_call 10; refine (small5_calls x A c B d _ (HR.out.below ZZ.out.b)).mono ?_; rw [← HSB.out]; rintro e wn ⟨rfl, hb⟩; have ZN := Lib.hid (ZZ.out.next hb); clear ZZ; have ZZ := ZN; clear ZN hb; clear x0 x1 x2 x3 x4 d4; have d4 := (blk_cell ZZ.out.h3 4).trans rfl; have x0 := (blk_cell ZZ.out.h2 0).trans rfl; have x1 := (blk_cell ZZ.out.h2 1).trans rfl; have x2 := (blk_cell ZZ.out.h2 2).trans rfl; have x3 := (blk_cell ZZ.out.h2 3).trans rfl; have x4 := (blk_cell ZZ.out.h2 4).trans rfl) | (go_at_call 12; refine (right5_calls x A c B d _ (HR.out.below ZZ.out.b) HZ.out).mono ?_; rw [← HOB.out]; rintro e wn ⟨rfl, hb⟩; have ZN := Lib.hid (ZZ.out.next hb); clear ZZ; have ZZ := ZN; clear ZN hb; clear x0 x1 x2 x3 x4 d4; have d4 := (blk_cell ZZ.out.h3 4).trans rfl; have x0 := (blk_cell ZZ.out.h2 0).trans rfl; have x1 := (blk_cell ZZ.out.h2 1).trans rfl; have x2 := (blk_cell ZZ.out.h2 2).trans rfl; have x3 := (blk_cell ZZ.out.h2 3).trans rfl; have x4 := (blk_cell ZZ.out.h2 4).trans rfl) | (go_at_call 37; refine (refRight_calls y.f4 _ (by omega)).mono ?_; rw [← HVB.out]; rintro e wn ⟨rfl, hb⟩; have ZN := Lib.hid (ZZ.out.next hb); clear ZZ; have ZZ := ZN; clear ZN hb; clear x0 x1 x2 x3 x4 d4; have d4 := (blk_cell ZZ.out.h3 4).trans rfl; have x0 := (blk_cell ZZ.out.h2 0).trans rfl; have x1 := (blk_cell ZZ.out.h2 1).trans rfl; have x2 := (blk_cell ZZ.out.h2 2).trans rfl; have x3 := (blk_cell ZZ.out.h2 3).trans rfl; have x4 := (blk_cell ZZ.out.h2 4).trans rfl))
      have r0 := (blk_cell ZZ.out.h4 0).trans rfl
      have z0 := blk_frozen ZZ.out.h4 0
      have r1 := (blk_cell ZZ.out.h4 1).trans rfl
      have z1 := blk_frozen ZZ.out.h4 1
      have r2 := (blk_cell ZZ.out.h4 2).trans rfl
      have z2 := blk_frozen ZZ.out.h4 2
      have r3 := (blk_cell ZZ.out.h4 3).trans rfl
      have z3 := blk_frozen ZZ.out.h4 3
      have r4 := (blk_cell ZZ.out.h4 4).trans rfl
      have z4 := blk_frozen ZZ.out.h4 4
      go_wp2
      refine bodyPost_ret (results_ct rfl _ _ (w.heap.size + 2) 31 zC (0, 0) _ rfl (by simpa using lay0_sp ZZ.out.h4) Tryd.underlying31 rfl (by kernel_rfl)) rfl ?_
      exact ⟨rfl, lay0_below ZZ.out.b (by omega)⟩
    | true =>
      by_cases hsz : y.f4.size ≤ 1500
      · have ds : decide ((1500 : Int) < (y.f4.size : Int)) = false := by simp; omega
        cases vb with
        | false =>
          simp only [Bool.and_false, Bool.false_eq_true, if_false]
          go_enter Tryd.func18, Tryd.ntmps18
          go_upto_region 1 with fail
          refine gen2 (φ := fun W => Code.wp _ _ _ _ W) (P := fun W => LZ w x A c B d y W) ⟨below_alloc (below_alloc (below_alloc (Below.refl _ _) _) _) _, blk_alloc (blk_alloc (blk_new w _) _) _, blk_alloc (blk_newS (by simp)) _, blk_newS (by simp)⟩ ?_
          intro V0 hV0
          have ZZ := Lib.hid hV0
          have d4 := (blk_cell hV0.h3 4).trans rfl
          clear hV0
          have x0 := (blk_cell ZZ.out.h2 0).trans rfl
          have x1 := (blk_cell ZZ.out.h2 1).trans rfl
          have x2 := (blk_cell ZZ.out.h2 2).trans rfl
          have x3 := (blk_cell ZZ.out.h2 3).trans rfl
          have x4 := (blk_cell ZZ.out.h2 4).trans rfl
          go_upto_region 2 with (first | (go_at_call 10; refine (small5_calls x A c B d _ (HR.out.below ZZ.out.b)).mono ?_; rw [← HSB.out]; rintro e wn ⟨rfl, hb⟩; have ZN := Lib.hid (ZZ.out.next hb); clear ZZ; have ZZ := ZN; clear ZN hb; clear x0 x1 x2 x3 x4 d4; have d4 := (blk_cell ZZ.out.h3 4).trans rfl; have x0 := (blk_cell ZZ.out.h2 0).trans rfl; have x1 := (blk_cell ZZ.out.h2 1).trans rfl; have x2 := (blk_cell ZZ.out.h2 2).trans rfl; have x3 := (blk_cell ZZ.out.h2 3).trans rfl; have x4 := (blk_cell ZZ.out.h2 4).trans rfl) | (go_at_call 12; refine (right5_calls x A c B d _ (HR.out.below ZZ.out.b) HZ.out).mono ?_; rw [← HOB.out]; rintro e wn ⟨rfl, hb⟩; have ZN := Lib.hid (ZZ.out.next hb); clear ZZ; have ZZ := ZN; clear ZN hb; clear x0 x1 x2 x3 x4 d4; have d4 := (blk_cell ZZ.out.h3 4).trans rfl; have x0 := (blk_cell ZZ.out.h2 0).trans rfl; have x1 := (blk_cell ZZ.out.h2 1).trans rfl; have x2 := (blk_cell ZZ.out.h2 2).trans rfl; have x3 := (blk_cell ZZ.out.h2 3).trans rfl; have x4 := (blk_cell ZZ.out.h2 4).trans rfl) | (go_at_call 37; refine (refRight_calls y.f4 _ (by omega)).mono ?_; rw [← HVB.out]; rintro e wn ⟨rfl, hb⟩; have ZN := Lib.hid (ZZ.out.next hb); clear ZZ; have ZZ := ZN; clear ZN hb; clear x0 x1 x2 x3 x4 d4; have d4 := (blk_cell ZZ.out.h3 4).trans rfl; have x0 := (blk_cell ZZ.out.h2 0).trans rfl; have x1 := (blk_cell ZZ.out.h2 1).trans rfl; have x2 := (blk_cell ZZ.out.h2 2).trans rfl; have x3 := (blk_cell ZZ.out.h2 3).trans rfl; have x4 := (blk_cell ZZ.out.h2 4).trans rfl))
          have r0 := (blk_cell ZZ.out.h4 0).trans rfl
          have z0 := blk_frozen ZZ.out.h4 0
          have r1 := (blk_cell ZZ.out.h4 1).trans rfl
          have z1 := blk_frozen ZZ.out.h4 1
          have r2 := (blk_cell ZZ.out.h4 2).trans rfl
          have z2 := blk_frozen ZZ.out.h4 2
          have r3 := (blk_cell ZZ.out.h4 3).trans rfl
          have z3 := blk_frozen ZZ.out.h4 3
          have r4 := (blk_cell ZZ.out.h4 4).trans rfl
          have z4 := blk_frozen ZZ.out.h4 4
          go_wp2
          refine bodyPost_ret (results_ct rfl _ _ (w.heap.size + 2) 31 zC (0, 0) _ rfl (by simpa using lay0_sp ZZ.out.h4) Tryd.underlying31 rfl (by kernel_rfl)) rfl ?_
          exact ⟨rfl, lay0_below ZZ.out.b (by omega)⟩
        | true =>
          have e1 : (true && true && decide (y.f4.size ≤ 1500) && true) = true := by rw [decide_eq_true hsz]; rfl
          simp only [e1, if_true]
          clear e1
          go_enter Tryd.func18, Tryd.ntmps18
          go_upto_region 1 with fail
          refine gen2 (φ := fun W => Code.wp _ _ _ _ W) (P := fun W => LZ w x A c B d y W) ⟨below_alloc (below_alloc (below_alloc (Below.refl _ _) _) _) _, blk_alloc (blk_alloc (blk_new w _) _) _, blk_alloc (blk_newS (by simp)) _, blk_newS (by simp)⟩ ?_
          intro V0 hV0
          have ZZ := Lib.hid hV0
          have d4 := (blk_cell hV0.h3 4).trans rfl
          clear hV0
          have x0 := (blk_cell ZZ.out.h2 0).trans rfl
          have x1 := (blk_cell ZZ.out.h2 1).trans rfl
          have x2 := (blk_cell ZZ.out.h2 2).trans rfl
          have x3 := (blk_cell ZZ.out.h2 3).trans rfl
          have x4 := (blk_cell ZZ.out.h2 4).trans rfl
          go_upto_region 3 with (first | (go_at_call 10; refine (small5_calls x A c B d _ (HR.out.below ZZ.out.b)).mono ?_; rw [← HSB.out]; rintro e wn ⟨rfl, hb⟩; have ZN := Lib.hid (ZZ.out.next hb); clear ZZ; have ZZ := ZN; clear ZN hb; clear x0 x1 x2 x3 x4 d4; have d4 := (blk_cell ZZ.out.h3 4).trans rfl; have x0 := (blk_cell ZZ.out.h2 0).trans rfl; have x1 := (blk_cell ZZ.out.h2 1).trans rfl; have x2 := (blk_cell ZZ.out.h2 2).trans rfl; have x3 := (blk_cell ZZ.out.h2 3).trans rfl; have x4 := (blk_cell ZZ.out.h2 4).trans rfl) | (go_at_call 12; refine (right5_calls x A c B d _ (HR.out.below ZZ.out.b) HZ.out).mono ?_; rw [← HOB.out]; rintro e wn ⟨rfl, hb⟩; have ZN := Lib.hid (ZZ.out.next hb); clear ZZ; have ZZ := ZN; clear ZN hb; clear x0 x1 x2 x3 x4 d4; have d4 := (blk_cell ZZ.out.h3 4).trans rfl; have x0 := (blk_cell ZZ.out.h2 0).trans rfl; have x1 := (blk_cell ZZ.out.h2 1).trans rfl; have x2 := (blk_cell ZZ.out.h2 2).trans rfl; have x3 := (blk_cell ZZ.out.h2 3).trans rfl; have x4 := (blk_cell ZZ.out.h2 4).trans rfl) | (go_at_call 37; refine (refRight_calls y.f4 _ (by omega)).mono ?_; rw [← HVB.out]; rintro e wn ⟨rfl, hb⟩; have ZN := Lib.hid (ZZ.out.next hb); clear ZZ; have ZZ := ZN; clear ZN hb; clear x0 x1 x2 x3 x4 d4; have d4 := (blk_cell ZZ.out.h3 4).trans rfl; have x0 := (blk_cell ZZ.out.h2 0).trans rfl; have x1 := (blk_cell ZZ.out.h2 1).trans rfl; have x2 := (blk_cell ZZ.out.h2 2).trans rfl; have x3 := (blk_cell ZZ.out.h2 3).trans rfl; have x4 := (blk_cell ZZ.out.h2 4).trans rfl))
          go_wp2_with fail
          (go_at_call 11; refine (segLoad_good2 x A c B d _ (HT.out.below ZZ.out.b) (HR.out.below ZZ.out.b) HZ.out HOB.out.symm).mono ?_; rintro e w3 ⟨p, A5, c5, B5, d5, rfl, s3, hb3⟩; have Z3 := Lib.hid (ZZ.out.next hb3); have S3 := Lib.hid s3; clear s3 hb3)
          clear x0 x1 x2 x3 x4 d4
          have r0 := (blk_cell Z3.out.h4 0).trans rfl
          have z0 := blk_frozen Z3.out.h4 0
          have r1 := (blk_cell Z3.out.h4 1).trans rfl
          have z1 := blk_frozen Z3.out.h4 1
          have r2 := (blk_cell Z3.out.h4 2).trans rfl
          have z2 := blk_frozen Z3.out.h4 2
          have r3 := (blk_cell Z3.out.h4 3).trans rfl
          have z3 := blk_frozen Z3.out.h4 3
          have r4 := (blk_cell Z3.out.h4 4).trans rfl
          have z4 := blk_frozen Z3.out.h4 4
          go_wp2
          have L := lay5_sp (y := x) (p := p) (A := A5) (c := c5) (B := B5) (d := d5) S3.out Z3.out.h4
          refine bodyPost_ret (results_ct rfl _ _ (w.heap.size + 2) 31 (sgC x p A5 c5 B5 d5) (0, 0) _ rfl (by simpa using L.2) Tryd.underlying31 rfl (by kernel_rfl)) rfl ?_
          exact ⟨p, A5, c5, B5, d5, rfl, L.1, lay5_below (y := x) (p := p) (A := A5) (c := c5) (B := B5) (d := d5) Z3.out.b (by omega)⟩
      · have ds : decide ((1500 : Int) < (y.f4.size : Int)) = true := by simp; omega
        have e1 : (true && true && decide (y.f4.size ≤ 1500) && vb) = false := by rw [decide_eq_false hsz]; rfl
        simp only [e1, Bool.false_eq_true, if_false]
        clear e1
        go_enter Tryd.func18, Tryd.ntmps18
        go_upto_region 1 with fail
        refine gen2 (φ := fun W => Code.wp _ _ _ _ W) (P := fun W => LZ w x A c B d y W) ⟨below_alloc (below_alloc (below_alloc (Below.refl _ _) _) _) _, blk_alloc (blk_alloc (blk_new w _) _) _, blk_alloc (blk_newS (by simp)) _, blk_newS (by simp)⟩ ?_
        intro V0 hV0
        have ZZ := Lib.hid hV0
        have d4 := (blk_cell hV0.h3 4).trans rfl
        clear hV0
        have x0 := (blk_cell ZZ.out.h2 0).trans rfl
        have x1 := (blk_cell ZZ.out.h2 1).trans rfl
        have x2 := (blk_cell ZZ.out.h2 2).trans rfl
        have x3 := (blk_cell ZZ.out.h2 3).trans rfl
        have x4 := (blk_cell ZZ.out.h2 4).trans rfl
        go_upto_region 2 with (first | (go_at_call 10; refine (small5_calls x A c B d _ (HR.out.below ZZ.out.b)).mono ?_; rw [← HSB.out]; rintro e wn ⟨rfl, hb⟩; have ZN := Lib.hid (ZZ.out.next hb); clear ZZ; have ZZ := ZN; clear ZN hb; clear x0 x1 x2 x3 x4 d4; have d4 := (blk_cell ZZ.out.h3 4).trans rfl; have x0 := (blk_cell ZZ.out.h2 0).trans rfl; have x1 := (blk_cell ZZ.out.h2 1).trans rfl; have x2 := (blk_cell ZZ.out.h2 2).trans rfl; have x3 := (blk_cell ZZ.out.h2 3).trans rfl; have x4 := (blk_cell ZZ.out.h2 4).trans rfl) | (go_at_call 12; refine (right5_calls x A c B d _ (HR.out.below ZZ.out.b) HZ.out).mono ?_; rw [← HOB.out]; rintro e wn ⟨rfl, hb⟩; have ZN := Lib.hid (ZZ.out.next hb); clear ZZ; have ZZ := ZN; clear ZN hb; clear x0 x1 x2 x3 x4 d4; have d4 := (blk_cell ZZ.out.h3 4).trans rfl; have x0 := (blk_cell ZZ.out.h2 0).trans rfl; have x1 := (blk_cell ZZ.out.h2 1).trans rfl; have x2 := (blk_cell ZZ.out.h2 2).trans rfl; have x3 := (blk_cell ZZ.out.h2 3).trans rfl; have x4 := (blk_cell ZZ.out.h2 4).trans rfl) | (go_at_call 37; refine (refRight_calls y.f4 _ (by omega)).mono ?_; rw [← HVB.out]; rintro e wn ⟨rfl, hb⟩; have ZN := Lib.hid (ZZ.out.next hb); clear ZZ; have ZZ := ZN; clear ZN hb; clear x0 x1 x2 x3 x4 d4; have d4 := (blk_cell ZZ.out.h3 4).trans rfl; have x0 := (blk_cell ZZ.out.h2 0).trans rfl; have x1 := (blk_cell ZZ.out.h2 1).trans rfl; have x2 := (blk_cell ZZ.out.h2 2).trans rfl; have x3 := (blk_cell ZZ.out.h2 3).trans rfl; have x4 := (blk_cell ZZ.out.h2 4).trans rfl))
        have r0 := (blk_cell ZZ.out.h4 0).trans rfl
        have z0 := blk_frozen ZZ.out.h4 0
        have r1 := (blk_cell ZZ.out.h4 1).trans rfl
        have z1 := blk_frozen ZZ.out.h4 1
        have r2 := (blk_cell ZZ.out.h4 2).trans rfl
        have z2 := blk_frozen ZZ.out.h4 2
        have r3 := (blk_cell ZZ.out.h4 3).trans rfl
        have z3 := blk_frozen ZZ.out.h4 3
        have r4 := (blk_cell ZZ.out.h4 4).trans rfl
        have z4 := blk_frozen ZZ.out.h4 4
        go_wp2
        refine bodyPost_ret (results_ct rfl _ _ (w.heap.size + 2) 31 zC (0, 0) _ rfl (by simpa using lay0_sp ZZ.out.h4) Tryd.underlying31 rfl (by kernel_rfl)) rfl ?_
        exact ⟨rfl, lay0_below ZZ.out.b (by omega)⟩
/-- What comes back of Insert. -/
noncomputable def insR (x : G) (a : Int) (t : ByteArray) (m quota : Int) : G × Bool := if quota < (x.f2.size : Int) + (t.size : Int) then (x, false) else (insG x a t m, true)
theorem segInsR_calls (x : G) (p A : Option Addr) (c : Nat) (B : Option Addr) (d : Nat) (q : Option Addr) (t : ByteArray) (a m quota : Int) (w : World) (hs : SP w x p A c B d) (hq : Rp w q t) (ho : InsOk x t) :
    Calls Tryd.prog 13 #[.agg (sgC x p A c B d), .int .i64 a, .pointer q, .int .i64 m, .int .i64 quota] w fun e w' => ∃ p2 A2 c2 B2 d2, e = .returned (.tuple #[.agg (sgC (insR x a t m quota).1 p2 A2 c2 B2 d2), .bool (insR x a t m quota).2]) ∧ SP w' (insR x a t m quota).1 p2 A2 c2 B2 d2 ∧ Below w.heap.size w w' := by
  refine (segIns_calls x p A c B d q t a m quota w hs hq ho).mono ?_
  intro e w' h
  unfold insR
  split at h
  · next hg =>
    rw [if_pos hg]
    exact ⟨p, A, c, B, d, h.1, hs.below h.2, h.2⟩
  · next hg =>
    rw [if_neg hg]
    exact h
theorem insR_sz {x : G} {t : ByteArray} (ho : InsOk x t) (h3 : x.f3.length ≤ 1000) (h4 : x.f4.length ≤ 1000) (a m quota : Int) : Sz (insR x a t m quota).1 := by
  unfold insR
  split
  · exact ho.z
  · refine ⟨?_, ?_, ?_⟩
    · show (putT x.f2 _ t).size ≤ _
      rw [putT_size (okB_true ho.v).1 ho.vt]
      have := ho.b1
      have := ho.b2
      omega
    · show (putL _ _ m x.f3).length ≤ _
      have h := Mk.putGo_len (clampI (cnt x.f2) a) (cnt t) m x.f3 [] false
      have h2 := addL_length (putGo (clampI (cnt x.f2) a) (cnt t) m x.f3 [] false).1 (freshS (clampI (cnt x.f2) a) (cnt t) m)
      unfold putL
      simp only [List.length_nil] at h
      split <;> omega
    · show (normY (x.f4.map _)).length ≤ _
      have h := normY_len (x.f4.map (Mk.mvY (Mk.toP (clampI (cnt x.f2) a) (cnt t))))
      rw [List.length_map] at h
      omega
theorem loadOk_iff {x : G} {t : ByteArray} (h : loadOk x t = true) : smallB x = true ∧ InsOk x t := by
  unfold loadOk at h
  rw [Bool.and_eq_true, Bool.and_eq_true, Bool.and_eq_true, decide_eq_true_eq] at h
  obtain ⟨⟨⟨h1, h2⟩, h3⟩, h4⟩ := h
  exact ⟨h1, small_sz h1, h2, by have := (small_iff h1).1; omega, by omega, h4⟩
end Go.Proofs.YtjphmebhofkhcaaDoor.Seg
/- Segments: the walk of the law SegmentInsert. Conditions: none beside the row's. -/
namespace Go.Proofs.YtjphmebhofkhcaaDoor.Seg
open Go.RowKit Go.Proofs.YtjphmebhofkhcaaDoorPl Go.Proofs.YtjphmebhofkhcaaDoorW.PrintWords Go.Proofs.YtjphmebhofkhcaaDoorW.PrintLast Go.Proofs.YtjphmebhofkhcaaDoorW.PrintMore Go.Proofs.YtjphmebhofkhcaaDoor.Rope Go.Proofs.YtjphmebhofkhcaaDoor.PSegAll Go.Proofs.YtjphmebhofkhcaaDoor.Pure
set_option linter.unusedVariables false
set_option linter.unusedSimpArgs false
theorem tG_ok {s t : ByteArray} (hv : Lib.validD s.data.toList = true) (hs : s.size ≤ 1073741824) (ht : Lib.validD t.data.toList = true) (htz : t.size ≤ 1073741824) : InsOk (tG s) t := by
  refine ⟨⟨by show s.size ≤ _; omega, (by show (0 : Nat) ≤ _; omega), (by show (0 : Nat) ≤ _; omega)⟩, ?_, hs, htz, ht⟩
  unfold okB
  show (Lib.validD s.data.toList && rightB (cnt s) [] []) = true
  rw [hv]
  rfl
theorem lets_ascii (s : ByteArray) (h : ∀ b ∈ s.data.toList, b.toNat < 128) : lets s = Rope.one s.data.toList := lets_eq (one_letts h) (one_flat _)
/-- The law's arguments in blocks of its own. -/
structure JZ (w : World) (x : G) (A : Option Addr) (c : Nat) (B : Option Addr) (d : Nat) (y : D) (W : World) : Prop where
  b : Below w.heap.size w W
  h2 : W.heap[w.heap.size]? = some (.cells (gC x A c B d) 25 (0, 0))
  h3 : W.heap[w.heap.size + 1]? = some (.cells (dC y) 37 (0, 0))
theorem JZ.next {w W W' : World} {x : G} {A : Option Addr} {c : Nat} {B : Option Addr} {d : Nat} {y : D} (h : JZ w x A c B d y W) (hb : Below W.heap.size W W') : JZ w x A c B d y W' := ⟨below_step h.b hb, blk_below h.h2 hb, blk_below h.h3 hb⟩
/-- A segment in a block. -/
structure SB (g : Nat) (x : G) (p A : Option Addr) (c : Nat) (B : Option Addr) (d : Nat) (W : World) : Prop where
  sp : SP W x p A c B d
  h : W.heap[g]? = some (.cells (sgC x p A c B d) 31 (0, 0))
theorem SB.next {g : Nat} {x : G} {p A : Option Addr} {c : Nat} {B : Option Addr} {d : Nat} {W W' : World} (h : SB g x p A c B d W) (hb : Below W.heap.size W W') : SB g x p A c B d W' := ⟨h.sp.below hb, blk_below h.h hb⟩
/-- .. and both segments. -/
structure KZ (w : World) (x : G) (A : Option Addr) (c : Nat) (B : Option Addr) (d : Nat) (y : D) (gS : Nat) (p A5 : Option Addr) (c5 : Nat) (B5 : Option Addr) (d5 : Nat) (g9 : Nat) (Y : G) (p9 A9 : Option Addr) (c9 : Nat) (B9 : Option Addr) (d9 : Nat) (W : World) : Prop where
  z : JZ w x A c B d y W
  s : SB gS x p A5 c5 B5 d5 W
  t : SB g9 Y p9 A9 c9 B9 d9 W
theorem KZ.next {w : World} {x : G} {A : Option Addr} {c : Nat} {B : Option Addr} {d : Nat} {y : D} {gS : Nat} {p A5 : Option Addr} {c5 : Nat} {B5 : Option Addr} {d5 : Nat} {g9 : Nat} {Y : G} {p9 A9 : Option Addr} {c9 : Nat} {B9 : Option Addr} {d9 : Nat} {W W' : World} (h : KZ w x A c B d y gS p A5 c5 B5 d5 g9 Y p9 A9 c9 B9 d9 W) (hb : Below W.heap.size W W') : KZ w x A c B d y gS p A5 c5 B5 d5 g9 Y p9 A9 c9 B9 d9 W' := ⟨h.z.next hb, h.s.next hb, h.t.next hb⟩
end Go.Proofs.YtjphmebhofkhcaaDoor.Seg
/- Segments: places, cuts of a text. Conditions: texts of at most 2^40 bytes, spans and sites. -/
namespace Go.Proofs.YtjphmebhofkhcaaDoor.Seg
open Go.RowKit Go.Proofs.YtjphmebhofkhcaaDoorPl Go.Proofs.YtjphmebhofkhcaaDoorW.PrintWords Go.Proofs.YtjphmebhofkhcaaDoorW.PrintLast Go.Proofs.YtjphmebhofkhcaaDoorW.PrintMore Go.Proofs.YtjphmebhofkhcaaDoor.Rope Go.Proofs.YtjphmebhofkhcaaDoor.PSegAll Go.Proofs.YtjphmebhofkhcaaDoor.Pure
set_option linter.unusedVariables false
set_option linter.unusedSimpArgs false
attribute [local go_sem] max2_int min2_int max_two min_two
/-- How many letters from a place on. -/
def lenI (c a n : Int) : Int := if c - a < (if n < 0 then 0 else n) then c - a else (if n < 0 then 0 else n)
theorem len_in {c a n : Int} (h : a ≤ c) : 0 ≤ lenI c a n ∧ a + lenI c a n ≤ c := by unfold lenI; (repeat' split) <;> omega
theorem cut_rp {w : World} {p : Option Addr} {s : ByteArray} (a b : Int) (h : Rp w p s) :
    Calls Tryd.prog 53 #[.pointer p, .int .i64 a, .int .i64 b] w fun e w' => ∃ r, e = .returned (.pointer r) ∧ Rp w' r (cutT s a b) ∧ Below w.heap.size w w' := by
  obtain ⟨t1, cs, hi, hs⟩ := h
  refine (cut_is a b hi).mono ?_
  rintro e w' ⟨v, rfl, hv, hb⟩
  obtain ⟨r, rfl, hr⟩ := hv.rp (s := cutT s a b) (by unfold cutT; rw [ofL_data, lets_eq hi.g.letts hs])
  exact ⟨r, rfl, hr, hb⟩
set_option maxRecDepth 100000 in
set_option maxHeartbeats 2000000 in
theorem places_calls (x : G) (p A : Option Addr) (c : Nat) (B : Option Addr) (d : Nat) (a n : Int) (w : World) (hr : Rp w p x.f2) (hz : x.f2.size ≤ 1099511627776) :
    Calls Tryd.prog 51 #[.agg (sgC x p A c B d), .int .i64 a, .int .i64 n] w fun e w' => e = .returned (.tuple #[.int .i64 (clampI (cnt x.f2) a), .int .i64 (clampI (cnt x.f2) a + lenI (cnt x.f2) (clampI (cnt x.f2) a) n)]) ∧ Below w.heap.size w w' := by
  obtain ⟨cs, hl, h2⟩ : ∃ cs, Letts cs ∧ x.f2.data.toList = cs.flatten := by obtain ⟨t, cs, hi, hs⟩ := hr; exact ⟨cs, hi.g.letts, hs⟩
  have hin := cnt_in ((validD_iff _).2 ⟨cs, hl, h2⟩) hz
  have hcl := clamp_in (a := a) hin.1
  have hln := len_in (n := n) hcl.2
  obtain ⟨q, hq⟩ : ∃ q, q = clampI (cnt x.f2) a := ⟨_, rfl⟩
  obtain ⟨m, hm⟩ : ∃ m, m = cnt x.f2 := ⟨_, rfl⟩
  rw [← hm] at hin hcl hln hq ⊢
  rw [← hq] at hcl hln ⊢
  obtain ⟨e1, he1⟩ : ∃ z, (if n < 0 then (0 : Int) else n) = z := ⟨_, rfl⟩
  obtain ⟨e2, he2⟩ : ∃ z, (if m - q < e1 then m - q else e1) = z := ⟨_, rfl⟩
  have el : lenI m q n = e2 := by unfold lenI; rw [he1]; exact he2
  rw [el] at hln ⊢
  have wa_ : IntKind.i64.wrap (m - q) = m - q := IntWalk.i64_in _ (by omega)
  have wb_ : IntKind.i64.wrap (q + e2) = q + e2 := IntWalk.i64_in _ (by omega)
  have HN := Lib.hid hm
  have HQ := Lib.hid hq
  have HR := Lib.hid hr
  clear hr hm hq el hl h2 hin hcl hln
  go_enter Tryd.func51, Tryd.ntmps51
  go_upto_region 2 with (go_at_call 42; refine (clampG_calls x p A c B d a _ (HR.out.below (below_alloc (Below.refl _ _) _)) hz).mono ?_; rw [← HN.out, ← HQ.out]; rintro e w1 ⟨rfl, hb1⟩; have B1 := Lib.hid (below_step (below_alloc (Below.refl _ _) _) hb1); have X1 := Lib.hid (blk_below (blk_newS rfl) hb1); clear hb1)
  have x2 := (blk_cell X1.out 2).trans rfl
  go_wp2_with fail
  (go_at_call 36; refine (len_rpb (p := p) (s := x.f2) (HR.out.below B1.out) hz).mono ?_; rw [← HN.out]; rintro e w2 ⟨rfl, hb2⟩)
  go_wp2
  refine bodyPost_ret (results_list (rs := [.tmp 6, .tmp 7]) rfl (by simp) (.tmp (.tmp .nil))) rfl ?_
  exact ⟨rfl, below_step B1.out hb2⟩
theorem abc_one : lets ⟨#[97, 98, 99]⟩ = [[97], [98], [99]] := lets_ascii ⟨#[97, 98, 99]⟩ (by decide)
theorem abc_cnt : cnt ⟨#[97, 98, 99]⟩ = 3 := by rw [cnt_lets (by decide +kernel) (by decide), abc_one]; rfl
end Go.Proofs.YtjphmebhofkhcaaDoor.Seg
/- Segments: the walks of Delete, Forget and Untake. Conditions: right segments; texts of at most 2^30 bytes. -/
namespace Go.Proofs.YtjphmebhofkhcaaDoor.Seg
open Go.RowKit Go.Proofs.YtjphmebhofkhcaaDoorPl Go.Proofs.YtjphmebhofkhcaaDoorW.PrintWords Go.Proofs.YtjphmebhofkhcaaDoorW.PrintLast Go.Proofs.YtjphmebhofkhcaaDoorW.PrintMore Go.Proofs.YtjphmebhofkhcaaDoor.Rope Go.Proofs.YtjphmebhofkhcaaDoor.PSegAll Go.Proofs.YtjphmebhofkhcaaDoor.Pure
set_option linter.unusedVariables false
set_option linter.unusedSimpArgs false
noncomputable def dropT (s : ByteArray) (a b : Int) : ByteArray := ofL ((lets s).take a.toNat ++ (lets s).drop b.toNat)
theorem drop_rp {w : World} {p : Option Addr} {s : ByteArray} (a b : Int) (h : Rp w p s) (hz : s.size ≤ 1073741824) (h0 : 0 ≤ a) (hab : a ≤ b) :
    Calls Tryd.prog 58 #[.pointer p, .int .i64 a, .int .i64 b] w fun e w' => ∃ r, e = .returned (.pointer r) ∧ Rp w' r (dropT s a b) ∧ Below w.heap.size w w' := by
  obtain ⟨t1, cs, hi, hs⟩ := h
  have e1 : bytesO t1 = s.size := by rw [hi.bytes, ← hs, toList_size]
  refine (drop_is a b hi (by omega)).mono ?_
  rintro e w' ⟨v, rfl, hv, hb⟩
  have ec : (if b.toNat ≤ a.toNat then cs else cs.take a.toNat ++ cs.drop b.toNat) = cs.take a.toNat ++ cs.drop b.toNat := by
    split
    · have : a.toNat = b.toNat := by omega
      rw [this, List.take_append_drop]
    · rfl
  rw [ec] at hv
  obtain ⟨r, rfl, hr⟩ := hv.rp (s := dropT s a b) (by unfold dropT; rw [ofL_data, lets_eq hi.g.letts hs])
  exact ⟨r, rfl, hr, hb⟩
/-- A segment behind letters that are taken away. -/
noncomputable def delG (x : G) (a b m : Int) : G := ⟨x.f0, x.f1, dropT x.f2 a b, Mk.takeW a b x.f3, Mk.lastY a m (normY (x.f4.map (Mk.mvY (Mk.toW a b))))⟩
theorem places_in {x : G} {t : ByteArray} (ho : InsOk x t) {at_ n a b : Int} (ha : a = clampI (cnt x.f2) at_) (hb_ : b = a + lenI (cnt x.f2) a n) : 0 ≤ a ∧ a ≤ b ∧ b ≤ cnt x.f2 ∧ cnt x.f2 ≤ 1073741824 := by
  have h1 := ho.cnt
  have h2 := clamp_in (a := at_) h1.1.1
  rw [← ha] at h2
  have h3 := len_in (n := n) h2.2
  rw [← hb_] at h3
  have h4 := len_in (n := n) h2.2
  omega
theorem rp_set {w : World} {r : Option Addr} {s : ByteArray} {g : Nat} {cs0 : Array Value} (h : Rp w r s) (hg : w.heap[g]? = some (.cells cs0 31 (0, 0))) (j : Nat) (u : Value) : Rp (w.setCell ⟨g, j, none⟩ u) r s := Rp.move (set_typeS hg (by decide) j u) h
theorem rp_out5 {w : World} {r : Option Addr} {s : ByteArray} {g : Nat} {cs0 : Array Value} (h : Rp w r s) (hg : w.heap[g]? = some (.cells cs0 31 (0, 0))) {u0 u1 u2 u3 u4 : Value} : Rp (((((w.setCell ⟨g, 0, none⟩ u0).setCell ⟨g, 1, none⟩ u1).setCell ⟨g, 2, none⟩ u2).setCell ⟨g, 3, none⟩ u3).setCell ⟨g, 4, none⟩ u4) r s :=
  rp_set (rp_set (rp_set (rp_set (rp_set h hg 0 u0) (blk_set hg 0 u0) 1 u1) (blk_set (blk_set hg 0 u0) 1 u1) 2 u2) (blk_set (blk_set (blk_set hg 0 u0) 1 u1) 2 u2) 3 u3) (blk_set (blk_set (blk_set (blk_set hg 0 u0) 1 u1) 2 u2) 3 u3) 4 u4
set_option maxRecDepth 1000000 in
set_option maxHeartbeats 4000000 in
theorem segDel_calls (x : G) (p A : Option Addr) (c : Nat) (B : Option Addr) (d : Nat) (at_ n m : Int) (w : World) (hs : SP w x p A c B d) (ho : InsOk x ⟨#[]⟩) (hy : x.f4.length ≤ 1099511627775) {a b : Int} (ha : a = clampI (cnt x.f2) at_) (hb_ : b = a + lenI (cnt x.f2) a n) :
    Calls Tryd.prog 28 #[.agg (sgC x p A c B d), .int .i64 at_, .int .i64 n, .int .i64 m] w fun e w' => ∃ r p1 A1 c1 B1 d1, e = .returned (.tuple #[.agg (sgC (delG x a b m) p1 A1 c1 B1 d1), .pointer r]) ∧ SP w' (delG x a b m) p1 A1 c1 B1 d1 ∧ Rp w' r (cutT x.f2 a b) ∧ Below w.heap.size w w' := by
  have HI := Lib.hid (places_in ho ha hb_)
  have HAB := Lib.hid (And.intro ha hb_)
  have HS := Lib.hid hs
  have HO := Lib.hid ho
  clear hs ho ha hb_
  go_enter Tryd.func28, Tryd.ntmps28
  go_upto_region 1 with fail
  refine gen2 (φ := fun W => Code.wp _ _ _ _ W) (P := fun W => IZ w w.heap.size (w.heap.size + 1) x p A c B d W) ⟨below_alloc (below_alloc (Below.refl _ _) _) _, Nat.le_refl _, by omega, by omega, blk_alloc (blk_new w _) _, blk_newS (by simp), HS.out.below (below_alloc (below_alloc (Below.refl _ _) _) _)⟩ ?_
  intro V0 hV0
  have Z0 := Lib.hid hV0
  have x0 := (blk_cell hV0.h5 0).trans rfl
  have x1 := (blk_cell hV0.h5 1).trans rfl
  have x2 := (blk_cell hV0.h5 2).trans rfl
  have x3 := (blk_cell hV0.h5 3).trans rfl
  have x4 := (blk_cell hV0.h5 4).trans rfl
  clear hV0
  go_upto_region 2 with (go_at_call 51; refine (places_calls x p A c B d at_ n _ Z0.out.sp.rp HO.out.z.s2).mono ?_; rw [← HAB.out.1, ← HAB.out.2]; rintro e w1 ⟨rfl, hb1⟩; have Z1 := Lib.hid (Z0.out.next hb1); clear hb1)
  clear x0 x1 x2 x3 x4 Z0
  have x2 := (blk_cell Z1.out.h5 2).trans rfl
  go_upto_region 3 with (go_at_call 53; refine (cut_rp a b Z1.out.sp.rp).mono ?_; rintro e w2 ⟨r, rfl, hr, hb1⟩; have Z2 := Lib.hid (Z1.out.next hb1); have RC := Lib.hid hr; clear hb1 hr)
  clear x2 Z1
  have x3 := (blk_cell Z2.out.h5 3).trans rfl
  have x4 := (blk_cell Z2.out.h5 4).trans rfl
  obtain ⟨pl, hpl⟩ : ∃ l, l = Mk.takeW a b x.f3 := ⟨_, rfl⟩
  obtain ⟨nz, hnz⟩ : ∃ l, l = Mk.lastY a m (normY (x.f4.map (Mk.mvY (Mk.toW a b)))) := ⟨_, rfl⟩
  have HPL := Lib.hid hpl
  have HNZ := Lib.hid hnz
  clear hpl hnz
  go_upto_region 4 with (go_at_call 57; refine (Mk.take_calls A c x.f3 B d x.f4 a b m _ Z2.out.sp.r3 Z2.out.sp.c3 Z2.out.sp.r4 Z2.out.sp.c4 HO.out.z.s3 hy (by have := HI.out; omega)).mono ?_; rw [← HPL.out, ← HNZ.out]; rintro e w4 ⟨A4, c4, B4, d4, e4, m4, n4, hb4⟩; subst e4; have M4 := Lib.hid m4; have N4 := Lib.hid n4; have HB4 := Lib.hid hb4; have t3 := (blk_cell (blk_below Z2.out.h5 hb4) 3).trans rfl; have t4 := (blk_cell (blk_below Z2.out.h5 hb4) 4).trans rfl; have z3 := blk_frozen (blk_below Z2.out.h5 hb4) 3; have z4 := blk_frozen (blk_below Z2.out.h5 hb4) 4; clear m4 n4 hb4)
  refine gen2 (φ := fun W => Code.wp _ _ _ _ W) (P := fun W => IZ w w.heap.size (w.heap.size + 1) ⟨x.f0, x.f1, x.f2, pl, nz⟩ p A4 c4 B4 d4 W ∧ Rp W r (cutT x.f2 a b)) ⟨Z2.out.marks HB4.out M4.out N4.out, rp_set (rp_set (RC.out.below HB4.out) (blk_below Z2.out.h5 HB4.out) 3 _) (blk_set (blk_below Z2.out.h5 HB4.out) 3 _) 4 _⟩ ?_
  rintro V2 ⟨hV2, hr⟩
  have Z2' := Lib.hid hV2
  have RD := Lib.hid hr
  have x2 := (blk_cell hV2.h5 2).trans rfl
  clear hV2 hr t3 t4 z3 z4 x3 x4 Z2 M4 N4 HB4 RC
  go_upto_region 5 with (go_at_call 58; refine (drop_rp a b (show Rp V2 p x.f2 from Z2'.out.sp.rp) HO.out.b1 HI.out.1 HI.out.2.1).mono ?_; rintro e w5 ⟨r5, rfl, hr5, hb5⟩; have R5 := Lib.hid hr5; have HB5 := Lib.hid hb5; have u2 := (blk_cell (blk_below Z2'.out.h5 hb5) 2).trans rfl; have z2 := blk_frozen (blk_below Z2'.out.h5 hb5) 2; clear hr5 hb5)
  refine gen2 (φ := fun W => Code.wp _ _ _ _ W) (P := fun W => IZ w w.heap.size (w.heap.size + 1) ⟨x.f0, x.f1, dropT x.f2 a b, pl, nz⟩ r5 A4 c4 B4 d4 W ∧ Rp W r (cutT x.f2 a b)) ⟨Z2'.out.text HB5.out R5.out, rp_set (RD.out.below HB5.out) (blk_below Z2'.out.h5 HB5.out) 2 _⟩ ?_
  rintro V3 ⟨hV3, hr⟩
  have Z3 := Lib.hid hV3
  have RE := Lib.hid hr
  have x0 := (blk_cell hV3.h5 0).trans rfl
  have x1 := (blk_cell hV3.h5 1).trans rfl
  have x2' := (blk_cell hV3.h5 2).trans rfl
  have x3 := (blk_cell hV3.h5 3).trans rfl
  have x4 := (blk_cell hV3.h5 4).trans rfl
  clear hV3 hr x2 u2 z2 Z2' HB5 R5 RD
  have HD := Lib.hid (show delG x a b m = ⟨x.f0, x.f1, dropT x.f2 a b, pl, nz⟩ by unfold delG; rw [← HPL.out, ← HNZ.out])
  have r0 := (blk_cell Z3.out.h10 0).trans rfl
  have z0 := blk_frozen Z3.out.h10 0
  have r1 := (blk_cell Z3.out.h10 1).trans rfl
  have z1 := blk_frozen Z3.out.h10 1
  have r2 := (blk_cell Z3.out.h10 2).trans rfl
  have z2 := blk_frozen Z3.out.h10 2
  have r3 := (blk_cell Z3.out.h10 3).trans rfl
  have z3 := blk_frozen Z3.out.h10 3
  have r4 := (blk_cell Z3.out.h10 4).trans rfl
  have z4 := blk_frozen Z3.out.h10 4
  go_wp2
  refine bodyPost_ret (results_ct rfl _ _ (w.heap.size + 1) 31 (sgC ⟨x.f0, x.f1, dropT x.f2 a b, pl, nz⟩ r5 A4 c4 B4 d4) (0, 0) _ rfl (by simpa using Z3.out.out5.1.2) Tryd.underlying31 rfl (by kernel_rfl)) rfl ?_
  rw [HD.out]
  exact ⟨r, r5, A4, c4, B4, d4, rfl, Z3.out.out5.1.1, rp_out5 RE.out Z3.out.h10, Z3.out.out5.2⟩
end Go.Proofs.YtjphmebhofkhcaaDoor.Seg
/- Segments: the walks of Forget, marks.Of and Untake. Conditions: right segments; texts of at most 2^30 bytes. -/
namespace Go.Proofs.YtjphmebhofkhcaaDoor.Seg
open Go.RowKit Go.Proofs.YtjphmebhofkhcaaDoorPl Go.Proofs.YtjphmebhofkhcaaDoorW.PrintWords Go.Proofs.YtjphmebhofkhcaaDoorW.PrintLast Go.Proofs.YtjphmebhofkhcaaDoorW.PrintMore Go.Proofs.YtjphmebhofkhcaaDoor.Rope Go.Proofs.YtjphmebhofkhcaaDoor.PSegAll Go.Proofs.YtjphmebhofkhcaaDoor.Pure
set_option linter.unusedVariables false
set_option linter.unusedSimpArgs false
/-- A segment without a mark. -/
def forG (x : G) (m : Int) : G := ⟨x.f0, x.f1, x.f2, dropSpans x.f3 m, dropSites x.f4 m⟩
set_option maxRecDepth 1000000 in
set_option maxHeartbeats 4000000 in
theorem segFor_calls (x : G) (p A : Option Addr) (c : Nat) (B : Option Addr) (d : Nat) (m : Int) (w : World) (hs : SP w x p A c B d) (hz : Sz x) :
    Calls Tryd.prog 59 #[.agg (sgC x p A c B d), .int .i64 m] w fun e w' => ∃ p1 A1 c1 B1 d1, e = .returned (.agg (sgC (forG x m) p1 A1 c1 B1 d1)) ∧ SP w' (forG x m) p1 A1 c1 B1 d1 ∧ Below w.heap.size w w' := by
  have HS := Lib.hid hs
  have HZ := Lib.hid hz
  clear hs hz
  obtain ⟨pl, hpl⟩ : ∃ l, l = dropSpans x.f3 m := ⟨_, rfl⟩
  obtain ⟨nz, hnz⟩ : ∃ l, l = dropSites x.f4 m := ⟨_, rfl⟩
  have HPL := Lib.hid hpl
  have HNZ := Lib.hid hnz
  clear hpl hnz
  go_enter Tryd.func59, Tryd.ntmps59
  go_upto_region 1 with fail
  refine gen2 (φ := fun W => Code.wp _ _ _ _ W) (P := fun W => IZ w w.heap.size (w.heap.size + 1) x p A c B d W) ⟨below_alloc (below_alloc (Below.refl _ _) _) _, Nat.le_refl _, by omega, by omega, blk_alloc (blk_new w _) _, blk_newS (by simp), HS.out.below (below_alloc (below_alloc (Below.refl _ _) _) _)⟩ ?_
  intro V0 hV0
  have Z2 := Lib.hid hV0
  have x3 := (blk_cell hV0.h5 3).trans rfl
  have x4 := (blk_cell hV0.h5 4).trans rfl
  clear hV0
  go_upto_region 2 with (go_at_call 82; refine (Dr.mdrop_calls _ A B c d x.f3 x.f4 m Z2.out.sp.r3 Z2.out.sp.c3 Z2.out.sp.r4 Z2.out.sp.c4 (by have := HZ.out.s3; omega) (by have := HZ.out.s4; omega)).mono ?_; rw [show (x.f3.filter fun x => !(x.f0 == m)) = pl from HPL.out.symm, show (x.f4.filter fun x => !(x.f0 == m)) = nz from HNZ.out.symm]; rintro e w4 ⟨v0, v1, rfl, m4, n4, hb4⟩; obtain ⟨A4, c4, ev⟩ := Kd.R_slice m4; subst ev; obtain ⟨B4, d4, ev⟩ := Kd.R_slice n4; subst ev; have M4 := Lib.hid m4; have N4 := Lib.hid n4; have HB4 := Lib.hid hb4; have t3 := (blk_cell (blk_below Z2.out.h5 hb4) 3).trans rfl; have t4 := (blk_cell (blk_below Z2.out.h5 hb4) 4).trans rfl; have z3 := blk_frozen (blk_below Z2.out.h5 hb4) 3; have z4 := blk_frozen (blk_below Z2.out.h5 hb4) 4; clear m4 n4 hb4)
  refine gen2 (φ := fun W => Code.wp _ _ _ _ W) (P := fun W => IZ w w.heap.size (w.heap.size + 1) ⟨x.f0, x.f1, x.f2, pl, nz⟩ p A4 c4 B4 d4 W) (Z2.out.marks HB4.out M4.out N4.out) ?_
  rintro V3 hV3
  have Z3 := Lib.hid hV3
  have x0 := (blk_cell hV3.h5 0).trans rfl
  have x1 := (blk_cell hV3.h5 1).trans rfl
  have x2' := (blk_cell hV3.h5 2).trans rfl
  have y3 := (blk_cell hV3.h5 3).trans rfl
  have y4 := (blk_cell hV3.h5 4).trans rfl
  clear hV3 t3 t4 z3 z4 x3 x4 Z2 M4 N4 HB4
  have HD := Lib.hid (show forG x m = ⟨x.f0, x.f1, x.f2, pl, nz⟩ by unfold forG; rw [← HPL.out, ← HNZ.out])
  have r0 := (blk_cell Z3.out.h10 0).trans rfl
  have z0 := blk_frozen Z3.out.h10 0
  have r1 := (blk_cell Z3.out.h10 1).trans rfl
  have z1 := blk_frozen Z3.out.h10 1
  have r2 := (blk_cell Z3.out.h10 2).trans rfl
  have z2 := blk_frozen Z3.out.h10 2
  have r3 := (blk_cell Z3.out.h10 3).trans rfl
  have z3 := blk_frozen Z3.out.h10 3
  have r4 := (blk_cell Z3.out.h10 4).trans rfl
  have z4 := blk_frozen Z3.out.h10 4
  go_wp2
  refine bodyPost_ret (results_cell_row rfl _ _ (w.heap.size + 1) 31 (sgC ⟨x.f0, x.f1, x.f2, pl, nz⟩ p A4 c4 B4 d4) (0, 0) _ rfl (by simpa using Z3.out.out5.1.2) Tryd.underlying31 rfl (by kernel_rfl)) rfl ?_
  rw [HD.out]
  exact ⟨p, A4, c4, B4, d4, rfl, Z3.out.out5.1.1, Z3.out.out5.2⟩
theorem of4_calls (x : G) (A : Option Addr) (c : Nat) (B : Option Addr) (d : Nat) (m : Int) (w : World) (hr : GR w x A c B d) (h : Sz x) :
    Calls Tryd.prog 47 #[.agg #[.slice A x.f3.length c, .slice B x.f4.length d], .int .i64 m] w fun e w' => ∃ A1 c1 A2 c2, e = .returned (.tuple #[.slice A1 (ofSpans x.f3 m).length c1, .slice A2 (ofSites x.f4 m).length c2]) ∧ Kd.C kS w' A1 (ofSpans x.f3 m).length (ofSpans x.f3 m) ∧ Kd.C (Kd.int .i64) w' A2 (ofSites x.f4 m).length (ofSites x.f4 m) ∧ Below w.heap.size w w' := by
  obtain ⟨k, hk⟩ := Go.Proofs.YtjphmebhofkhcaaDoorW.PrintWords.Ev.rounds (marks_Of_ev x.f3 x.f4 m (by have := h.s3; omega) (by have := h.s4; omega))
  refine (marks_Of.calls k A c x.f3 B d x.f4 m _ _ _ hr.r3 hr.c3 hr.r4 hr.c4 hk).mono ?_
  rintro e w1 ⟨v0, v1, rfl, r0, r1, hb1⟩
  obtain ⟨A1, c1, e1⟩ := Kd.R_slice r0
  obtain ⟨A2, c2, e2⟩ := Kd.R_slice r1
  subst e1
  subst e2
  exact ⟨A1, c1, A2, c2, rfl, (Kd.R_reads' r0).2.2, (Kd.R_reads' r1).2.2, hb1⟩
theorem at_In {w : World} {A : Option Addr} {n : Nat} {l : List Int} (h : Kd.C (Kd.int .i64) w A n l) {j : Nat} {v : Int} (hx : l[j]? = some v) (hj : j < n) : ∃ ad, A = some ad ∧ w.cell? (ad.add j) = some (.int .i64 v) := by
  obtain ⟨ad, c, e, _, hK, hc⟩ := Kd.C_get h v (j : Int) (by omega) (by omega)
  have e2 : l.getD (j : Int).toNat v = v := by rw [Int.toNat_natCast, List.getD_eq_getElem?_getD, hx]; rfl
  rw [e2] at hK
  have hK' : c = [.int .i64 v] := hK
  subst hK'
  have := hc 0 _ rfl
  rw [Int.toNat_natCast] at this
  have e3 : (Kd.int .i64).sz = 1 := rfl
  rw [e3, Nat.mul_one, Nat.add_zero] at this
  exact ⟨ad, e, this⟩
theorem add_zero_ (ad : Addr) : ad.add 0 = ad := by
  cases ad with
  | mk b o r => cases r <;> simp [Addr.add]
/-- A segment where a mark's text comes back. -/
noncomputable def untL (x : G) (m : Int) (t : ByteArray) (quota : Int) : List Int → G × Bool
  | [] => (x, false)
  | a :: _ => if (insR x a t 0 quota).2 = true then (forG (insR x a t 0 quota).1 m, true) else (x, false)
noncomputable def untR (x : G) (m : Int) (t : ByteArray) (quota : Int) : G × Bool := untL x m t quota (ofSites x.f4 m)
abbrev UQ (V : World) (g : Nat) (x : G) (p A : Option Addr) (c : Nat) (B : Option Addr) (d : Nat) (q : Addr) (a : Int) (w' : World) : Prop := Q5 V g x p A c B d w' ∧ w'.cell? q = some (.int .i64 a)
theorem UQ.next {V W W' : World} {g : Nat} {x : G} {p A : Option Addr} {c : Nat} {B : Option Addr} {d : Nat} {q : Addr} {a : Int} (h : UQ V g x p A c B d q a W) (hb : Below W.heap.size W W') : UQ V g x p A c B d q a W' := ⟨Q5.next h.1 hb, pw_cell_below hb h.2⟩
theorem UQ.b {V W : World} {g : Nat} {x : G} {p A : Option Addr} {c : Nat} {B : Option Addr} {d : Nat} {q : Addr} {a : Int} (h : UQ V g x p A c B d q a W) : Below V.heap.size V W := Q5.b h.1
theorem UQ.of {V W : World} {g : Nat} {x : G} {p A : Option Addr} {c : Nat} {B : Option Addr} {d : Nat} {q : Addr} {a : Int} (h : V.heap[g]? = some (.cells (sgC x p A c B d) 31 (0, 0))) (hq : V.cell? q = some (.int .i64 a)) (hb : Below V.heap.size V W) : UQ V g x p A c B d q a W := ⟨Q5.of h hb, pw_cell_below hb hq⟩
set_option maxRecDepth 1000000 in
set_option maxHeartbeats 8000000 in
theorem segUnt_calls (x : G) (p A : Option Addr) (c : Nat) (B : Option Addr) (d : Nat) (m : Int) (q : Option Addr) (t : ByteArray) (quota : Int) (w : World) (hs : SP w x p A c B d) (hq : Rp w q t) (ho : InsOk x t) (h3 : x.f3.length ≤ 1000) (h4 : x.f4.length ≤ 1000) :
    Calls Tryd.prog 29 #[.agg (sgC x p A c B d), .int .i64 m, .pointer q, .int .i64 quota] w fun e w' => ∃ p2 A2 c2 B2 d2, e = .returned (.tuple #[.agg (sgC (untR x m t quota).1 p2 A2 c2 B2 d2), .bool (untR x m t quota).2]) ∧ SP w' (untR x m t quota).1 p2 A2 c2 B2 d2 ∧ Below w.heap.size w w' := by
  have HS := Lib.hid hs
  have HQ := Lib.hid hq
  have HO := Lib.hid ho
  obtain ⟨l, hl⟩ : ∃ l, l = ofSites x.f4 m := ⟨_, rfl⟩
  have HL := Lib.hid hl
  have HU := Lib.hid (show untR x m t quota = untL x m t quota l by unfold untR; rw [hl])
  have HLL := Lib.hid (show l.length ≤ 1000 by rw [hl]; unfold ofSites; rw [List.length_map]; exact Nat.le_trans (List.length_filter_le _ _) h4)
  clear hs hq ho hl
  go_enter Tryd.func29, Tryd.ntmps29
  go_upto_region 1 with fail
  refine gen2 (φ := fun W => Code.wp _ _ _ _ W) (P := fun W => IZ w w.heap.size (w.heap.size + 1) x p A c B d W) ⟨below_alloc (below_alloc (Below.refl _ _) _) _, Nat.le_refl _, by omega, by omega, blk_alloc (blk_new w _) _, blk_newS (by simp), HS.out.below (below_alloc (below_alloc (Below.refl _ _) _) _)⟩ ?_
  intro V0 hV0
  have Z0 := Lib.hid hV0
  have x3 := (blk_cell hV0.h5 3).trans rfl
  have x4 := (blk_cell hV0.h5 4).trans rfl
  clear hV0
  go_upto_region 2 with (go_at_call 47; refine (of4_calls x A c B d m _ Z0.out.sp.toGR HO.out.z).mono ?_; rw [← HL.out]; rintro e w1 ⟨A1, c1, A2, c2, rfl, hc1, hc2, hb⟩; have Z1 := Lib.hid (Z0.out.next hb); have R2 := Lib.hid hc2; clear hb hc1 hc2)
  clear x3 x4 Z0
  cases l with
  | nil =>
    have x0 := (blk_cell Z1.out.h5 0).trans rfl
    have x1 := (blk_cell Z1.out.h5 1).trans rfl
    have x2 := (blk_cell Z1.out.h5 2).trans rfl
    have x3 := (blk_cell Z1.out.h5 3).trans rfl
    have x4 := (blk_cell Z1.out.h5 4).trans rfl
    have r0 := (blk_cell Z1.out.h10 0).trans rfl
    have z0 := blk_frozen Z1.out.h10 0
    have r1 := (blk_cell Z1.out.h10 1).trans rfl
    have z1 := blk_frozen Z1.out.h10 1
    have r2 := (blk_cell Z1.out.h10 2).trans rfl
    have z2 := blk_frozen Z1.out.h10 2
    have r3 := (blk_cell Z1.out.h10 3).trans rfl
    have z3 := blk_frozen Z1.out.h10 3
    have r4 := (blk_cell Z1.out.h10 4).trans rfl
    have z4 := blk_frozen Z1.out.h10 4
    go_wp2
    refine bodyPost_ret (results_ct rfl _ _ (w.heap.size + 1) 31 (sgC x p A c B d) (0, 0) _ rfl (by simpa using Z1.out.out5.1.2) Tryd.underlying31 rfl (by kernel_rfl)) rfl ?_
    rw [HU.out]
    exact ⟨p, A, c, B, d, rfl, Z1.out.out5.1.1, Z1.out.out5.2⟩
  | cons a rest =>
    obtain ⟨ad, e0, y0⟩ := at_In (j := 0) R2.out rfl (by simp)
    subst e0
    have b0 : decide (((a :: rest).length : Int) = 0) = false := by simp <;> omega
    have b1 : ¬ (((a :: rest).length : Int) = 0) := by simp <;> omega
    have b2 : (0 : Int) < ((a :: rest).length : Int) := by simp <;> omega
    have b3 : (((a :: rest).length : Int) == 0) = false := by simp <;> omega
    have b4 : 0 < (a :: rest).length := by simp
    have y0 : w1.cell? ad = some (.int .i64 a) := by rw [add_zero_] at y0; exact y0
    clear R2
    generalize (a :: rest).length = n1 at *
    go_upto_region 4 with fail
    obtain ⟨Y, hY⟩ : ∃ Y, Y = (insR x a t 0 quota).1 := ⟨_, rfl⟩
    obtain ⟨ok, hok⟩ : ∃ b, b = (insR x a t 0 quota).2 := ⟨_, rfl⟩
    have EY := Lib.hid (And.intro hY hok)
    have YZ := Lib.hid (show Sz Y by rw [hY]; exact insR_sz HO.out h3 h4 _ _ _)
    obtain ⟨F, hF⟩ : ∃ F, F = forG Y m := ⟨_, rfl⟩
    have HF := Lib.hid hF
    have HV := Lib.hid (show untR x m t quota = if ok = true then (F, true) else (x, false) by rw [HU.out, hF, hY, hok]; rfl)
    clear hF
    clear hY hok b0 b1 b3 HU
    have QD := Lib.hid (show UQ w1 w.heap.size x p A c B d ad a w1.drew from UQ.of Z1.out.h5 y0 (by with_reducible repeat (first | exact Below.refl _ _ | apply pw_below_drewN | apply Below.drew | apply below_alloc)))
    refine wp_region_noPanic ?_
    refine wp_region_held_drew (S := (fun w' => UQ w1 w.heap.size x p A c B d ad a w')) ?hm_r ?hS_r (fun hHeld => ?_)
    case hm_r => kernel_rfl
    case hS_r => exact QD.out
    refine wpAnyH_take (i := 0) (oi := ?or0) (v := ?vr0) ?hi_r0 ?k1_r0 ?k2_r0 ?k3_r0 (fun _ _ _ h => h) (Or.inl ⟨?g_r0, ?y_r0⟩) (by assumption) ?r_r0
    case hi_r0 => (simp only [List.getElem?_toArray, List.getElem?_cons_succ, List.getElem?_cons_zero]; rfl)
    case k1_r0 => kernel_rfl
    case k2_r0 => kernel_rfl
    case k3_r0 => kernel_rfl
    case g_r0 => rfl
    case y_r0 => (intro w hSw; (try dsimp only at hSw); first | (go_simp; done) | (go_simp; with_reducible rfl))
    (try simp only [Act.put, List.setIfInBounds_toArray, List.set_cons_zero, List.set_cons_succ])
    refine wpAnyH_take (i := 1) (oi := ?or1) (v := ?vr1) ?hi_r1 ?k1_r1 ?k2_r1 ?k3_r1 (fun _ _ _ h => h) (Or.inl ⟨?g_r1, ?y_r1⟩) (by assumption) ?r_r1
    case hi_r1 => (simp only [List.getElem?_toArray, List.getElem?_cons_succ, List.getElem?_cons_zero]; rfl)
    case k1_r1 => kernel_rfl
    case k2_r1 => kernel_rfl
    case k3_r1 => kernel_rfl
    case g_r1 => rfl
    case y_r1 => (intro w hSw; (try dsimp only at hSw); first | (go_simp; done) | (go_simp; with_reducible rfl))
    (try simp only [Act.put, List.setIfInBounds_toArray, List.set_cons_zero, List.set_cons_succ])
    refine wpAnyH_take (i := 2) (oi := ?or2) (v := ?vr2) ?hi_r2 ?k1_r2 ?k2_r2 ?k3_r2 (fun _ _ _ h => h) (Or.inl ⟨?g_r2, ?y_r2⟩) (by assumption) ?r_r2
    case hi_r2 => (simp only [List.getElem?_toArray, List.getElem?_cons_succ, List.getElem?_cons_zero]; rfl)
    case k1_r2 => kernel_rfl
    case k2_r2 => kernel_rfl
    case k3_r2 => kernel_rfl
    case g_r2 => rfl
    case y_r2 => (intro w hSw; (try dsimp only at hSw); first | (go_simp; done) | (go_simp; with_reducible rfl))
    (try simp only [Act.put, List.setIfInBounds_toArray, List.set_cons_zero, List.set_cons_succ])
    refine wpAnyH_take (i := 3) (oi := ?or3) (v := ?vr3) ?hi_r3 ?k1_r3 ?k2_r3 ?k3_r3 (fun _ _ _ h => h) (Or.inl ⟨?g_r3, ?y_r3⟩) (by assumption) ?r_r3
    case hi_r3 => (simp only [List.getElem?_toArray, List.getElem?_cons_succ, List.getElem?_cons_zero]; rfl)
    case k1_r3 => kernel_rfl
    case k2_r3 => kernel_rfl
    case k3_r3 => kernel_rfl
    case g_r3 => rfl
    case y_r3 => (intro w hSw; (try dsimp only at hSw); first | (go_simp; done) | (go_simp; with_reducible rfl))
    (try simp only [Act.put, List.setIfInBounds_toArray, List.set_cons_zero, List.set_cons_succ])
    refine wpAnyH_take (i := 4) (oi := ?or4) (v := ?vr4) ?hi_r4 ?k1_r4 ?k2_r4 ?k3_r4 (fun _ _ _ h => h) (Or.inl ⟨?g_r4, ?y_r4⟩) (by assumption) ?r_r4
    case hi_r4 => (simp only [List.getElem?_toArray, List.getElem?_cons_succ, List.getElem?_cons_zero]; rfl)
    case k1_r4 => kernel_rfl
    case k2_r4 => kernel_rfl
    case k3_r4 => kernel_rfl
    case g_r4 => rfl
    case y_r4 => (intro w hSw; (try dsimp only at hSw); first | (go_simp; done) | (go_simp; with_reducible rfl))
    (try simp only [Act.put, List.setIfInBounds_toArray, List.set_cons_zero, List.set_cons_succ])
    refine wpAnyH_take (i := 5) (oi := ?or5) (v := ?vr5) ?hi_r5 ?k1_r5 ?k2_r5 ?k3_r5 (fun _ _ _ h => h) (Or.inl ⟨?g_r5, ?y_r5⟩) (by assumption) ?r_r5
    case hi_r5 => (simp only [List.getElem?_toArray, List.getElem?_cons_succ, List.getElem?_cons_zero]; rfl)
    case k1_r5 => kernel_rfl
    case k2_r5 => kernel_rfl
    case k3_r5 => kernel_rfl
    case g_r5 => rfl
    case y_r5 => (intro w hSw; (try dsimp only at hSw); first | (go_simp; done) | (go_simp; with_reducible rfl))
    (try simp only [Act.put, List.setIfInBounds_toArray, List.set_cons_zero, List.set_cons_succ])
    refine wpAnyH_ready (rs := [6, 10]) ?k1_rx6 (by simp) ?r_rx6
    case k1_rx6 => kernel_rfl
    refine AllReadyH.cons (o := ?orx6) ?hi_rx6 (fun K hK => ?s_rx6) ?m_rx6
    case hi_rx6 => (simp only [List.getElem?_toArray, List.getElem?_cons_succ, List.getElem?_cons_zero]; rfl)
    case m_rx6 =>
      refine AllReadyH.cons (o := ?orx10) ?hi_rx10 (fun K hK => ?s_rx10) ?m_rx10
      case hi_rx10 => (simp only [List.getElem?_toArray, List.getElem?_cons_succ, List.getElem?_cons_zero]; rfl)
      case m_rx10 => exact AllReadyH.nil
      go_simp
      refine hK.out _ _ (UQ.next QD.out (below_alloc (Below.refl _ _) _)) (fun hHeld => ?_)
      clear hK K
      (try simp only [Act.put, List.setIfInBounds_toArray, List.set_cons_zero, List.set_cons_succ])
      refine wpAnyH_ready (rs := [6]) ?k1_rB6 (by simp) ?r_rB6
      case k1_rB6 => kernel_rfl
      refine AllReadyH.cons (o := ?orB6) ?hi_rB6 (fun K hK => ?s_rB6) ?m_rB6
      case hi_rB6 => (simp only [List.getElem?_toArray, List.getElem?_cons_succ, List.getElem?_cons_zero]; rfl)
      case m_rB6 => exact AllReadyH.nil
      go_simp
      (go_at_call 13; (refine (segInsR_calls x p A c B d q t a 0 quota _ (Z1.out.sp.below (UQ.b (UQ.next QD.out (below_alloc (Below.refl _ _) (.cells zC 31))))) (HQ.out.below (below_step Z1.out.b (UQ.b (UQ.next QD.out (below_alloc (Below.refl _ _) (.cells zC 31)))))) HO.out).mono ?_); rw [← EY.out.1, ← EY.out.2]; rintro e w6 ⟨p6, A6, c6, B6, d6, rfl, s6, hb⟩; have XM := Lib.hid (blk_below (blk_newS (w := w1.drew) (g := w1.heap.size) (o := .cells zC 31) rfl) hb); have q0 := (blk_cell XM.out 0).trans rfl; have z0 := blk_frozen XM.out 0; have q1 := (blk_cell XM.out 1).trans rfl; have z1 := blk_frozen XM.out 1; have q2 := (blk_cell XM.out 2).trans rfl; have z2 := blk_frozen XM.out 2; have q3 := (blk_cell XM.out 3).trans rfl; have z3 := blk_frozen XM.out 3; have q4 := (blk_cell XM.out 4).trans rfl; have z4 := blk_frozen XM.out 4; have S6 := Lib.hid s6; have Q6 := Lib.hid (UQ.next (UQ.next QD.out (below_alloc (Below.refl _ _) (.cells zC 31))) hb); clear s6 hb)
      (try go_wp2_with fail)
      refine hK.out _ _ Q6.out (fun hHeld => ?_)
      clear hK K
      (try simp only [Act.put, List.setIfInBounds_toArray, List.set_cons_zero, List.set_cons_succ])
      refine wpAnyH_take (i := 7) (oi := ?orB7) (v := ?vrB7) ?hi_rB7 ?k1_rB7 ?k2_rB7 ?k3_rB7 (fun _ _ _ h => h) (Or.inl ⟨?g_rB7, ?y_rB7⟩) (by assumption) ?r_rB7
      case hi_rB7 => (simp only [List.getElem?_toArray, List.getElem?_cons_succ, List.getElem?_cons_zero]; rfl)
      case k1_rB7 => kernel_rfl
      case k2_rB7 => kernel_rfl
      case k3_rB7 => kernel_rfl
      case g_rB7 => rfl
      case y_rB7 => (intro w hSw; (try dsimp only at hSw); first | (go_simp; done) | (go_simp; with_reducible rfl))
      (try simp only [Act.put, List.setIfInBounds_toArray, List.set_cons_zero, List.set_cons_succ])
      refine wpAnyH_take (i := 8) (oi := ?orB8) (v := ?vrB8) ?hi_rB8 ?k1_rB8 ?k2_rB8 ?k3_rB8 (fun _ _ _ h => h) (Or.inl ⟨?g_rB8, ?y_rB8⟩) (by assumption) ?r_rB8
      case hi_rB8 => (simp only [List.getElem?_toArray, List.getElem?_cons_succ, List.getElem?_cons_zero]; rfl)
      case k1_rB8 => kernel_rfl
      case k2_rB8 => kernel_rfl
      case k3_rB8 => kernel_rfl
      case g_rB8 => rfl
      case y_rB8 => (intro w hSw; (try dsimp only at hSw); first | (go_simp; done) | (go_simp; with_reducible rfl))
      (try simp only [Act.put, List.setIfInBounds_toArray, List.set_cons_zero, List.set_cons_succ])
      refine wpAnyH_take (i := 9) (oi := ?orB9) (v := ?vrB9) ?hi_rB9 ?k1_rB9 ?k2_rB9 ?k3_rB9 (fun _ _ _ h => h) (Or.inl ⟨?g_rB9, ?y_rB9⟩) (by assumption) ?r_rB9
      case hi_rB9 => (simp only [List.getElem?_toArray, List.getElem?_cons_succ, List.getElem?_cons_zero]; rfl)
      case k1_rB9 => kernel_rfl
      case k2_rB9 => kernel_rfl
      case k3_rB9 => kernel_rfl
      case g_rB9 => rfl
      case y_rB9 => (intro w hSw; (try dsimp only at hSw); first | (go_simp; done) | (go_simp; with_reducible rfl))
      (try simp only [Act.put, List.setIfInBounds_toArray, List.set_cons_zero, List.set_cons_succ])
      refine wpAnyH_ready (rs := [11]) ?k1_rB11 (by simp) ?r_rB11
      case k1_rB11 => kernel_rfl
      refine AllReadyH.cons (o := ?orB11) ?hi_rB11 (fun K hK => ?s_rB11) ?m_rB11
      case hi_rB11 => (simp only [List.getElem?_toArray, List.getElem?_cons_succ, List.getElem?_cons_zero]; rfl)
      case m_rB11 => exact AllReadyH.nil
      go_simp
      refine hK.out _ _ (UQ.of Z1.out.h5 y0 (lay5_below (y := Y) (p := p6) (A := A6) (c := c6) (B := B6) (d := d6) (UQ.b Q6.out) (Nat.le_refl _))) (fun hHeld => ?_)
      clear hK K
      (try simp only [Act.put, List.setIfInBounds_toArray, List.set_cons_zero, List.set_cons_succ])
      refine wpAnyH_take (i := 12) (oi := ?orB12) (v := ?vrB12) ?hi_rB12 ?k1_rB12 ?k2_rB12 ?k3_rB12 (fun _ _ _ h => h) (Or.inl ⟨?g_rB12, ?y_rB12⟩) (by assumption) ?r_rB12
      case hi_rB12 => (simp only [List.getElem?_toArray, List.getElem?_cons_succ, List.getElem?_cons_zero]; rfl)
      case k1_rB12 => kernel_rfl
      case k2_rB12 => kernel_rfl
      case k3_rB12 => kernel_rfl
      case g_rB12 => rfl
      case y_rB12 => (intro w hSw; (try dsimp only at hSw); first | (go_simp; done) | (go_simp; with_reducible rfl))
      (try simp only [Act.put, List.setIfInBounds_toArray, List.set_cons_zero, List.set_cons_succ])
      refine wpAnyH_done (by kernel_rfl) ?_ _
      refine NoPanic.normal ?_
      have hI : IZ w w.heap.size (w.heap.size + 1) x p A c B d (lay5 w6 w1.heap.size Y p6 A6 c6 B6 d6) ∧ SB w1.heap.size Y p6 A6 c6 B6 d6 (lay5 w6 w1.heap.size Y p6 A6 c6 B6 d6) := ⟨Z1.out.next (lay5_below (y := Y) (p := p6) (A := A6) (c := c6) (B := B6) (d := d6) (UQ.b Q6.out) (Nat.le_refl _)), ⟨(lay5_sp (y := Y) (p := p6) (A := A6) (c := c6) (B := B6) (d := d6) S6.out XM.out).1, (lay5_sp (y := Y) (p := p6) (A := A6) (c := c6) (B := B6) (d := d6) S6.out XM.out).2⟩⟩
      refine gen2 (φ := fun W => Exit.then _ _ Exit.normal _ W) (P := fun W => IZ w w.heap.size (w.heap.size + 1) x p A c B d W ∧ SB w1.heap.size Y p6 A6 c6 B6 d6 W) hI ?_
      clear hI
      generalize w1.heap.size = g12 at *
      rintro W ⟨hz, hs⟩
      have Z5 := Lib.hid hz
      have S5 := Lib.hid hs
      clear XM q0 q1 q2 q3 q4 z0 z1 z2 z3 z4
      have x0 := (blk_cell hz.h5 0).trans rfl
      have s0 := (blk_cell hs.h 0).trans rfl
      have x1 := (blk_cell hz.h5 1).trans rfl
      have s1 := (blk_cell hs.h 1).trans rfl
      have x2 := (blk_cell hz.h5 2).trans rfl
      have s2 := (blk_cell hs.h 2).trans rfl
      have x3 := (blk_cell hz.h5 3).trans rfl
      have s3 := (blk_cell hs.h 3).trans rfl
      have x4 := (blk_cell hz.h5 4).trans rfl
      have s4 := (blk_cell hs.h 4).trans rfl
      clear hz hs hHeld
      cases ok with
      | false =>
        have r0 := (blk_cell Z5.out.h10 0).trans rfl
        have z0 := blk_frozen Z5.out.h10 0
        have r1 := (blk_cell Z5.out.h10 1).trans rfl
        have z1 := blk_frozen Z5.out.h10 1
        have r2 := (blk_cell Z5.out.h10 2).trans rfl
        have z2 := blk_frozen Z5.out.h10 2
        have r3 := (blk_cell Z5.out.h10 3).trans rfl
        have z3 := blk_frozen Z5.out.h10 3
        have r4 := (blk_cell Z5.out.h10 4).trans rfl
        have z4 := blk_frozen Z5.out.h10 4
        go_wp2
        refine bodyPost_ret (results_ct rfl _ _ (w.heap.size + 1) 31 (sgC x p A c B d) (0, 0) _ rfl (by simpa using Z5.out.out5.1.2) Tryd.underlying31 rfl (by kernel_rfl)) rfl ?_
        rw [HV.out]
        exact ⟨p, A, c, B, d, rfl, Z5.out.out5.1.1, Z5.out.out5.2⟩
      | true =>
        go_wp2_with (first | (go_at_call 59; (refine (segFor_calls Y p6 A6 c6 B6 d6 m _ S5.out.sp YZ.out).mono ?_); rw [← HF.out]; rintro e w7 ⟨p7, A7, c7, B7, d7, rfl, s7, hb⟩; have S7 := Lib.hid s7; have Z7 := Lib.hid (Z5.out.next hb); have r0 := (blk_cell Z7.out.h10 0).trans rfl; have z0 := blk_frozen Z7.out.h10 0; have r1 := (blk_cell Z7.out.h10 1).trans rfl; have z1 := blk_frozen Z7.out.h10 1; have r2 := (blk_cell Z7.out.h10 2).trans rfl; have z2 := blk_frozen Z7.out.h10 2; have r3 := (blk_cell Z7.out.h10 3).trans rfl; have z3 := blk_frozen Z7.out.h10 3; have r4 := (blk_cell Z7.out.h10 4).trans rfl; have z4 := blk_frozen Z7.out.h10 4; clear s7 hb))
        have L7 := lay5_sp (y := F) (p := p7) (A := A7) (c := c7) (B := B7) (d := d7) S7.out Z7.out.h10
        refine bodyPost_ret (results_ct rfl _ _ (w.heap.size + 1) 31 (sgC F p7 A7 c7 B7 d7) (0, 0) _ rfl (by simpa using L7.2) Tryd.underlying31 rfl (by kernel_rfl)) rfl ?_
        rw [HV.out]
        exact ⟨p7, A7, c7, B7, d7, rfl, L7.1, lay5_below Z7.out.b Z7.out.lo10⟩
    go_simp
    (go_at_call 13; (refine (segInsR_calls x p A c B d q t a 0 quota _ (Z1.out.sp.below (UQ.b QD.out)) (HQ.out.below (below_step Z1.out.b (UQ.b QD.out))) HO.out).mono ?_); rw [← EY.out.1, ← EY.out.2]; rintro e w6 ⟨p6, A6, c6, B6, d6, rfl, s6, hb⟩; skip; have S6 := Lib.hid s6; have Q6 := Lib.hid (UQ.next QD.out hb); clear s6 hb)
    (try go_wp2_with fail)
    refine hK.out _ _ Q6.out (fun hHeld => ?_)
    clear hK K
    (try simp only [Act.put, List.setIfInBounds_toArray, List.set_cons_zero, List.set_cons_succ])
    refine wpAnyH_take (i := 7) (oi := ?orA7) (v := ?vrA7) ?hi_rA7 ?k1_rA7 ?k2_rA7 ?k3_rA7 (fun _ _ _ h => h) (Or.inl ⟨?g_rA7, ?y_rA7⟩) (by assumption) ?r_rA7
    case hi_rA7 => (simp only [List.getElem?_toArray, List.getElem?_cons_succ, List.getElem?_cons_zero]; rfl)
    case k1_rA7 => kernel_rfl
    case k2_rA7 => kernel_rfl
    case k3_rA7 => kernel_rfl
    case g_rA7 => rfl
    case y_rA7 => (intro w hSw; (try dsimp only at hSw); first | (go_simp; done) | (go_simp; with_reducible rfl))
    (try simp only [Act.put, List.setIfInBounds_toArray, List.set_cons_zero, List.set_cons_succ])
    refine wpAnyH_take (i := 8) (oi := ?orA8) (v := ?vrA8) ?hi_rA8 ?k1_rA8 ?k2_rA8 ?k3_rA8 (fun _ _ _ h => h) (Or.inl ⟨?g_rA8, ?y_rA8⟩) (by assumption) ?r_rA8
    case hi_rA8 => (simp only [List.getElem?_toArray, List.getElem?_cons_succ, List.getElem?_cons_zero]; rfl)
    case k1_rA8 => kernel_rfl
    case k2_rA8 => kernel_rfl
    case k3_rA8 => kernel_rfl
    case g_rA8 => rfl
    case y_rA8 => (intro w hSw; (try dsimp only at hSw); first | (go_simp; done) | (go_simp; with_reducible rfl))
    (try simp only [Act.put, List.setIfInBounds_toArray, List.set_cons_zero, List.set_cons_succ])
    refine wpAnyH_take (i := 9) (oi := ?orA9) (v := ?vrA9) ?hi_rA9 ?k1_rA9 ?k2_rA9 ?k3_rA9 (fun _ _ _ h => h) (Or.inl ⟨?g_rA9, ?y_rA9⟩) (by assumption) ?r_rA9
    case hi_rA9 => (simp only [List.getElem?_toArray, List.getElem?_cons_succ, List.getElem?_cons_zero]; rfl)
    case k1_rA9 => kernel_rfl
    case k2_rA9 => kernel_rfl
    case k3_rA9 => kernel_rfl
    case g_rA9 => rfl
    case y_rA9 => (intro w hSw; (try dsimp only at hSw); first | (go_simp; done) | (go_simp; with_reducible rfl))
    (try simp only [Act.put, List.setIfInBounds_toArray, List.set_cons_zero, List.set_cons_succ])
    refine wpAnyH_ready (rs := [10]) ?k1_rA10 (by simp) ?r_rA10
    case k1_rA10 => kernel_rfl
    refine AllReadyH.cons (o := ?orA10) ?hi_rA10 (fun K hK => ?s_rA10) ?m_rA10
    case hi_rA10 => (simp only [List.getElem?_toArray, List.getElem?_cons_succ, List.getElem?_cons_zero]; rfl)
    case m_rA10 => exact AllReadyH.nil
    go_simp
    refine hK.out _ _ (UQ.next Q6.out (below_alloc (Below.refl _ _) _)) (fun hHeld => ?_)
    clear hK K
    (try simp only [Act.put, List.setIfInBounds_toArray, List.set_cons_zero, List.set_cons_succ])
    refine wpAnyH_ready (rs := [11]) ?k1_rA11 (by simp) ?r_rA11
    case k1_rA11 => kernel_rfl
    refine AllReadyH.cons (o := ?orA11) ?hi_rA11 (fun K hK => ?s_rA11) ?m_rA11
    case hi_rA11 => (simp only [List.getElem?_toArray, List.getElem?_cons_succ, List.getElem?_cons_zero]; rfl)
    case m_rA11 => exact AllReadyH.nil
    go_simp
    refine hK.out _ _ (UQ.next Q6.out (below_alloc (Below.refl _ _) _)) (fun hHeld => ?_)
    clear hK K
    (try simp only [Act.put, List.setIfInBounds_toArray, List.set_cons_zero, List.set_cons_succ])
    refine wpAnyH_take (i := 12) (oi := ?orA12) (v := ?vrA12) ?hi_rA12 ?k1_rA12 ?k2_rA12 ?k3_rA12 (fun _ _ _ h => h) (Or.inl ⟨?g_rA12, ?y_rA12⟩) (by assumption) ?r_rA12
    case hi_rA12 => (simp only [List.getElem?_toArray, List.getElem?_cons_succ, List.getElem?_cons_zero]; rfl)
    case k1_rA12 => kernel_rfl
    case k2_rA12 => kernel_rfl
    case k3_rA12 => kernel_rfl
    case g_rA12 => rfl
    case y_rA12 => (intro w hSw; (try dsimp only at hSw); first | (go_simp; done) | (go_simp; with_reducible rfl))
    (try simp only [Act.put, List.setIfInBounds_toArray, List.set_cons_zero, List.set_cons_succ])
    refine wpAnyH_done (by kernel_rfl) ?_ _
    refine NoPanic.normal ?_
    have hI : IZ w w.heap.size (w.heap.size + 1) x p A c B d (w6.alloc (.cells (sgC Y p6 A6 c6 B6 d6) 31)) ∧ SB w6.heap.size Y p6 A6 c6 B6 d6 (w6.alloc (.cells (sgC Y p6 A6 c6 B6 d6) 31)) := ⟨Z1.out.next (below_step (UQ.b Q6.out) (below_alloc (Below.refl _ _) _)), ⟨S6.out.below (below_alloc (Below.refl _ _) _), blk_newS rfl⟩⟩
    refine gen2 (φ := fun W => Exit.then _ _ Exit.normal _ W) (P := fun W => IZ w w.heap.size (w.heap.size + 1) x p A c B d W ∧ SB w6.heap.size Y p6 A6 c6 B6 d6 W) hI ?_
    clear hI
    generalize w6.heap.size = g12 at *
    rintro W ⟨hz, hs⟩
    have Z5 := Lib.hid hz
    have S5 := Lib.hid hs
    have x0 := (blk_cell hz.h5 0).trans rfl
    have s0 := (blk_cell hs.h 0).trans rfl
    have x1 := (blk_cell hz.h5 1).trans rfl
    have s1 := (blk_cell hs.h 1).trans rfl
    have x2 := (blk_cell hz.h5 2).trans rfl
    have s2 := (blk_cell hs.h 2).trans rfl
    have x3 := (blk_cell hz.h5 3).trans rfl
    have s3 := (blk_cell hs.h 3).trans rfl
    have x4 := (blk_cell hz.h5 4).trans rfl
    have s4 := (blk_cell hs.h 4).trans rfl
    clear hz hs hHeld
    cases ok with
    | false =>
      have r0 := (blk_cell Z5.out.h10 0).trans rfl
      have z0 := blk_frozen Z5.out.h10 0
      have r1 := (blk_cell Z5.out.h10 1).trans rfl
      have z1 := blk_frozen Z5.out.h10 1
      have r2 := (blk_cell Z5.out.h10 2).trans rfl
      have z2 := blk_frozen Z5.out.h10 2
      have r3 := (blk_cell Z5.out.h10 3).trans rfl
      have z3 := blk_frozen Z5.out.h10 3
      have r4 := (blk_cell Z5.out.h10 4).trans rfl
      have z4 := blk_frozen Z5.out.h10 4
      go_wp2
      refine bodyPost_ret (results_ct rfl _ _ (w.heap.size + 1) 31 (sgC x p A c B d) (0, 0) _ rfl (by simpa using Z5.out.out5.1.2) Tryd.underlying31 rfl (by kernel_rfl)) rfl ?_
      rw [HV.out]
      exact ⟨p, A, c, B, d, rfl, Z5.out.out5.1.1, Z5.out.out5.2⟩
    | true =>
      go_wp2_with (first | (go_at_call 59; (refine (segFor_calls Y p6 A6 c6 B6 d6 m _ S5.out.sp YZ.out).mono ?_); rw [← HF.out]; rintro e w7 ⟨p7, A7, c7, B7, d7, rfl, s7, hb⟩; have S7 := Lib.hid s7; have Z7 := Lib.hid (Z5.out.next hb); have r0 := (blk_cell Z7.out.h10 0).trans rfl; have z0 := blk_frozen Z7.out.h10 0; have r1 := (blk_cell Z7.out.h10 1).trans rfl; have z1 := blk_frozen Z7.out.h10 1; have r2 := (blk_cell Z7.out.h10 2).trans rfl; have z2 := blk_frozen Z7.out.h10 2; have r3 := (blk_cell Z7.out.h10 3).trans rfl; have z3 := blk_frozen Z7.out.h10 3; have r4 := (blk_cell Z7.out.h10 4).trans rfl; have z4 := blk_frozen Z7.out.h10 4; clear s7 hb))
      have L7 := lay5_sp (y := F) (p := p7) (A := A7) (c := c7) (B := B7) (d := d7) S7.out Z7.out.h10
      refine bodyPost_ret (results_ct rfl _ _ (w.heap.size + 1) 31 (sgC F p7 A7 c7 B7 d7) (0, 0) _ rfl (by simpa using L7.2) Tryd.underlying31 rfl (by kernel_rfl)) rfl ?_
      rw [HV.out]
      exact ⟨p7, A7, c7, B7, d7, rfl, L7.1, lay5_below Z7.out.b Z7.out.lo10⟩
end Go.Proofs.YtjphmebhofkhcaaDoor.Seg
/- Segments: what is left of letters that are taken away, and what comes back. Conditions: right segments. -/
namespace Go.Proofs.YtjphmebhofkhcaaDoor.Seg
open Go.RowKit Go.Proofs.YtjphmebhofkhcaaDoorPl Go.Proofs.YtjphmebhofkhcaaDoorW.PrintWords Go.Proofs.YtjphmebhofkhcaaDoorW.PrintLast Go.Proofs.YtjphmebhofkhcaaDoorW.PrintMore Go.Proofs.YtjphmebhofkhcaaDoor.Rope Go.Proofs.YtjphmebhofkhcaaDoor.PSegAll Go.Proofs.YtjphmebhofkhcaaDoor.Pure
set_option linter.unusedVariables false
set_option linter.unusedSimpArgs false
theorem dropT_letts {s : ByteArray} (hv : Lib.validD s.data.toList = true) (a b : Int) : Letts ((lets s).take a.toNat ++ (lets s).drop b.toNat) := letts_app (letts_take (lets_ok hv).1 _) (letts_drop (lets_ok hv).1 _)
theorem cutT_letts {s : ByteArray} (hv : Lib.validD s.data.toList = true) (a b : Int) : Letts (((lets s).take b.toNat).drop a.toNat) := letts_drop (letts_take (lets_ok hv).1 _) _
theorem cutT_valid {s : ByteArray} (hv : Lib.validD s.data.toList = true) (a b : Int) : Lib.validD (cutT s a b).data.toList = true := ofL_valid (cutT_letts hv a b)
theorem dropT_valid {s : ByteArray} (hv : Lib.validD s.data.toList = true) (a b : Int) : Lib.validD (dropT s a b).data.toList = true := ofL_valid (dropT_letts hv a b)
theorem drop_cut_size {s : ByteArray} (hv : Lib.validD s.data.toList = true) {a b : Int} (h0 : 0 ≤ a) (h1 : a ≤ b) : (dropT s a b).size + (cutT s a b).size = s.size := by
  unfold dropT cutT
  rw [ofL_size, ofL_size, ← toList_size s, (lets_ok hv).2, List.flatten_append, List.length_append]
  have e1 := congrArg List.length (flatten_take_drop (lets s) b.toNat)
  have e2 := congrArg List.length (flatten_take_drop ((lets s).take b.toNat) a.toNat)
  rw [List.length_append] at e1 e2
  have e3 : ((lets s).take b.toNat).take a.toNat = (lets s).take a.toNat := by rw [List.take_take, Nat.min_eq_left (by omega)]
  rw [e3] at e2
  omega
theorem dropT_cnt {s : ByteArray} (hv : Lib.validD s.data.toList = true) (hs : s.size ≤ 1099511627776) {a b : Int} (h0 : 0 ≤ a) (h1 : a ≤ b) (h2 : b ≤ cnt s) : cnt (dropT s a b) = cnt s - (b - a) := by
  have hz : (dropT s a b).size ≤ 1099511627776 := by have := drop_cut_size hv h0 h1; omega
  rw [cnt_lets (dropT_valid hv a b) hz]
  have e : lets (dropT s a b) = (lets s).take a.toNat ++ (lets s).drop b.toNat := lets_ofL (dropT_letts hv a b)
  rw [e, List.length_append, List.length_take, List.length_drop]
  rw [cnt_lets hv hs] at h2 ⊢
  omega
/-- Letters that are put back where they stood. -/
theorem put_back {s : ByteArray} (hv : Lib.validD s.data.toList = true) {a b : Int} (h0 : 0 ≤ a) (h1 : a ≤ b) (hl : b.toNat ≤ (lets s).length) : putT (dropT s a b) a (cutT s a b) = s := by
  have e1 : lets (dropT s a b) = (lets s).take a.toNat ++ (lets s).drop b.toNat := lets_ofL (dropT_letts hv a b)
  have e2 : lets (cutT s a b) = ((lets s).take b.toNat).drop a.toNat := lets_ofL (cutT_letts hv a b)
  have hla : ((lets s).take a.toNat).length = a.toNat := by rw [List.length_take]; omega
  unfold putT
  rw [e1, e2]
  have t1 : ((lets s).take a.toNat ++ (lets s).drop b.toNat).take a.toNat = (lets s).take a.toNat := by rw [List.take_append_of_le_length (by omega), List.take_of_length_le (by omega)]
  have t2 : ((lets s).take a.toNat ++ (lets s).drop b.toNat).drop a.toNat = (lets s).drop b.toNat := by rw [List.drop_append_of_le_length (by omega), List.drop_of_length_le (by omega), List.nil_append]
  have t3 : (lets s).take a.toNat ++ ((lets s).take b.toNat).drop a.toNat = (lets s).take b.toNat := by
    have : (lets s).take a.toNat = ((lets s).take b.toNat).take a.toNat := by rw [List.take_take, Nat.min_eq_left (by omega)]
    rw [this, List.take_append_drop]
  rw [t1, t2, t3, List.take_append_drop, ofL_lets hv]
theorem last_right5 {n a m : Int} {ys : List S70} (h : sitesOk n none ys = true) (h0 : 0 ≤ a) (h1 : a ≤ n) : sitesOk n none (Mk.lastY a m ys) = true := by
  obtain ⟨g1, g2, _⟩ := (sitesOk_iff n none ys).1 h
  unfold Mk.lastY
  by_cases hm : m > 0
  · rw [if_pos hm]
    refine (sitesOk_iff n none _).2 ⟨fun s hs => ?_, (siteL_ok g2).1, fun q hq => by cases hq⟩
    rcases ((siteL_ok g2).2 s).1 hs with rfl | hs
    · exact ⟨hm, h0, h1⟩
    · exact g1 s hs
  · rw [if_neg hm]
    exact h
theorem lastY_len5 (a m : Int) (ys : List S70) : (Mk.lastY a m ys).length ≤ ys.length + 1 := by
  unfold Mk.lastY
  split
  · exact siteL_length _ _
  · omega
theorem delG_ok {x : G} {t : ByteArray} (ho : InsOk x t) {a b : Int} (h0 : 0 ≤ a) (h1 : a ≤ b) (h2 : b ≤ cnt x.f2) (m : Int) : okB (delG x a b m) = true := by
  obtain ⟨hv, hr⟩ := okB_true ho.v
  obtain ⟨j1, j2⟩ := Mk.right_iff.1 hr
  have hc := ho.cnt.1
  have hx := ok_each j1
  unfold okB
  rw [Bool.and_eq_true]
  refine ⟨dropT_valid hv a b, ?_⟩
  show rightB (cnt (dropT x.f2 a b)) (Mk.takeW a b x.f3) (Mk.lastY a m (normY (x.f4.map (Mk.mvY (Mk.toW a b))))) = true
  rw [dropT_cnt hv ho.z.s2 h0 h1 h2]
  refine Mk.right_iff.2 ⟨?_, ?_⟩
  · rw [Mk.takeW_eq h0 (by omega) (fun y hy => by have := hx y hy; omega)]
    exact (takeL_ok j1 h0 h1 h2).1
  · refine last_right5 (Mk.norm_right j2 (fun p q0 q1 => ?_)) h0 (by omega)
    rw [Mk.toW_eq h0 (by omega) (by omega)]
    unfold toT
    (repeat' split) <;> omega
theorem delG_sz {x : G} {t : ByteArray} (ho : InsOk x t) (h3 : x.f3.length ≤ 300) (h4 : x.f4.length ≤ 300) {a b : Int} (h0 : 0 ≤ a) (h1 : a ≤ b) (m : Int) : (delG x a b m).f3.length ≤ 300 ∧ (delG x a b m).f4.length ≤ 301 := by
  refine ⟨Nat.le_trans (Mk.takeW_len a b x.f3) h3, ?_⟩
  have e1 := lastY_len5 a m (normY (x.f4.map (Mk.mvY (Mk.toW a b))))
  have e2 := normY_len (x.f4.map (Mk.mvY (Mk.toW a b)))
  rw [List.length_map] at e2
  show (Mk.lastY a m (normY (x.f4.map (Mk.mvY (Mk.toW a b))))).length ≤ 301
  omega
theorem delG_ins {x : G} {t : ByteArray} (ho : InsOk x t) (h3 : x.f3.length ≤ 300) (h4 : x.f4.length ≤ 300) {a b : Int} (h0 : 0 ≤ a) (h1 : a ≤ b) (h2 : b ≤ cnt x.f2) (m : Int) : InsOk (delG x a b m) (cutT x.f2 a b) := by
  have hs := drop_cut_size (okB_true ho.v).1 h0 h1
  have hz := delG_sz ho h3 h4 h0 h1 m
  have h5 := ho.b1
  exact ⟨⟨by show (dropT x.f2 a b).size ≤ _; omega, by omega, by omega⟩, delG_ok ho h0 h1 h2 m, by show (dropT x.f2 a b).size ≤ _; omega, by omega, cutT_valid (okB_true ho.v).1 a b⟩
/-- No mark: neither spans nor sites. -/
theorem hasG_no {x : G} {m : Int} (h : hasG x m = false) : (∀ s ∈ x.f3, s.f0 ≠ m) ∧ ∀ s ∈ x.f4, s.f0 ≠ m := by
  unfold hasG at h
  rw [decide_eq_false_iff_not] at h
  have e1 : (ofSpans x.f3 m).length = 0 := by omega
  have e2 : (ofSites x.f4 m).length = 0 := by omega
  unfold ofSpans at e1
  unfold ofSites at e2
  rw [List.length_map] at e2
  rw [List.length_eq_zero_iff, List.filter_eq_nil_iff] at e1 e2
  exact ⟨fun s hs e => e1 s hs (by simp [e]), fun s hs e => e2 s hs (by simp [e])⟩
theorem only_one {s : S70} : ∀ {l : List S70}, l.Pairwise siteLt → (∀ y ∈ l, y = s) → s ∈ l → l = [s]
  | [], _, _, h => by simp at h
  | [y], _, h, _ => by rw [h y (by simp)]
  | y :: z :: r, hp, h, _ => by
    have := List.rel_of_pairwise_cons hp (a' := z) (by simp)
    rw [h y (by simp), h z (by simp)] at this
    exact absurd this (siteLt_irr s)
theorem ofSites_del {x : G} {a b m : Int} (hm : 0 < m) (hn : hasG x m = false) : ofSites (delG x a b m).f4 m = [a] := by
  show ofSites (Mk.lastY a m (normY (x.f4.map (Mk.mvY (Mk.toW a b))))) m = [a]
  have hz := normY_ok (x.f4.map (Mk.mvY (Mk.toW a b)))
  have hl := siteL_ok (s := (⟨m, a⟩ : S70)) hz.1
  unfold Mk.lastY
  rw [if_pos hm]
  unfold ofSites
  have e : (siteL (normY (x.f4.map (Mk.mvY (Mk.toW a b)))) ⟨m, a⟩).filter (fun y => y.f0 == m) = [⟨m, a⟩] := by
    refine only_one (hl.1.filter _) (fun y hy => ?_) (List.mem_filter.2 ⟨(hl.2 _).2 (Or.inl rfl), by simp⟩)
    obtain ⟨h1, h2⟩ := List.mem_filter.1 hy
    rcases (hl.2 y).1 h1 with h3 | h3
    · exact h3
    · obtain ⟨z, hz1, rfl⟩ := List.mem_map.1 ((hz.2 y).1 h3)
      exact absurd (show z.f0 = m by have h4 : (z.f0 == m) = true := h2; simpa using h4) ((hasG_no hn).2 z hz1)
  rw [e]
  rfl
theorem hasG_for (x : G) (m : Int) : hasG (forG x m) m = false := by
  unfold hasG
  rw [decide_eq_false_iff_not]
  have e1 : ofSpans (dropSpans x.f3 m) m = [] := by
    unfold ofSpans dropSpans
    rw [List.filter_eq_nil_iff]
    intro y hy
    have := (List.mem_filter.1 hy).2
    simpa using this
  have e2 : ofSites (dropSites x.f4 m) m = [] := by
    unfold ofSites dropSites
    rw [List.map_eq_nil_iff, List.filter_eq_nil_iff]
    intro y hy
    have := (List.mem_filter.1 hy).2
    simpa using this
  show ¬ (0 : Int) < ((ofSpans (dropSpans x.f3 m) m).length : Int) + ((ofSites (dropSites x.f4 m) m).length : Int)
  rw [e1, e2]
  simp
/-- What is taken away and put back at once stands where it stood. -/
theorem taken_back {x : G} {t : ByteArray} (ho : InsOk x t) {a b m : Int} (h0 : 0 ≤ a) (h1 : a ≤ b) (h2 : b ≤ cnt x.f2) (hm : 0 < m) (hn : hasG x m = false) :
    (untR (delG x a b m) m (cutT x.f2 a b) (x.f2.size : Int)).2 = true ∧ (untR (delG x a b m) m (cutT x.f2 a b) (x.f2.size : Int)).1.f2 = x.f2 ∧ hasG (untR (delG x a b m) m (cutT x.f2 a b) (x.f2.size : Int)).1 m = false := by
  obtain ⟨hv, _⟩ := okB_true ho.v
  have hs := drop_cut_size hv h0 h1
  have hc := dropT_cnt hv ho.z.s2 h0 h1 h2
  have ei : insR (delG x a b m) a (cutT x.f2 a b) 0 (x.f2.size : Int) = (insG (delG x a b m) a (cutT x.f2 a b) 0, true) := by
    unfold insR
    rw [if_neg (by show ¬ (x.f2.size : Int) < ((dropT x.f2 a b).size : Int) + ((cutT x.f2 a b).size : Int); omega)]
  have eu : untR (delG x a b m) m (cutT x.f2 a b) (x.f2.size : Int) = (forG (insG (delG x a b m) a (cutT x.f2 a b) 0) m, true) := by
    unfold untR
    rw [ofSites_del hm hn]
    show (if (insR (delG x a b m) a (cutT x.f2 a b) 0 (x.f2.size : Int)).2 = true then (forG (insR (delG x a b m) a (cutT x.f2 a b) 0 (x.f2.size : Int)).1 m, true) else (delG x a b m, false)) = _
    rw [ei]
    rfl
  rw [eu]
  refine ⟨rfl, ?_, hasG_for _ m⟩
  show putT (dropT x.f2 a b) (clampI (cnt (dropT x.f2 a b)) a) (cutT x.f2 a b) = x.f2
  have ec : clampI (cnt (dropT x.f2 a b)) a = a := by
    rw [hc]
    unfold clampI
    rw [if_neg (by omega), if_neg (by omega)]
  rw [ec]
  refine put_back hv h0 h1 ?_
  rw [cnt_lets hv ho.z.s2] at h2
  omega
theorem abc_places : (1 : Int) = clampI (cnt (tG ⟨#[97, 98, 99]⟩).f2) 1 ∧ (2 : Int) = 1 + lenI (cnt (tG ⟨#[97, 98, 99]⟩).f2) 1 1 := by
  show (1 : Int) = clampI (cnt ⟨#[97, 98, 99]⟩) 1 ∧ (2 : Int) = 1 + lenI (cnt ⟨#[97, 98, 99]⟩) 1 1
  rw [abc_cnt]
  exact ⟨rfl, rfl⟩
theorem abc_del : (delG (tG ⟨#[97, 98, 99]⟩) 1 2 7).f2 = ⟨#[97, 99]⟩ ∧ cutT (tG ⟨#[97, 98, 99]⟩).f2 1 2 = ⟨#[98]⟩ := by
  show dropT ⟨#[97, 98, 99]⟩ 1 2 = _ ∧ cutT ⟨#[97, 98, 99]⟩ 1 2 = _
  unfold dropT cutT
  rw [abc_one]
  exact ⟨rfl, rfl⟩
theorem untR_sz {x : G} {t : ByteArray} (ho : InsOk x t) (h3 : x.f3.length ≤ 1000) (h4 : x.f4.length ≤ 1000) (m quota : Int) : Sz (untR x m t quota).1 := by
  unfold untR
  cases ofSites x.f4 m with
  | nil => exact ho.z
  | cons a r =>
    show Sz (if (insR x a t 0 quota).2 = true then (forG (insR x a t 0 quota).1 m, true) else (x, false)).1
    have h := insR_sz ho h3 h4 a 0 quota
    split
    · exact ⟨h.s2, Nat.le_trans (List.length_filter_le _ _) h.s3, Nat.le_trans (List.length_filter_le _ _) h.s4⟩
    · exact ho.z
end Go.Proofs.YtjphmebhofkhcaaDoor.Seg
/- Segments: the walk of the law SegmentTakenBack. Conditions: none beside the row's. -/
namespace Go.Proofs.YtjphmebhofkhcaaDoor.Seg
open Go.RowKit Go.Proofs.YtjphmebhofkhcaaDoorPl Go.Proofs.YtjphmebhofkhcaaDoorW.PrintWords Go.Proofs.YtjphmebhofkhcaaDoorW.PrintLast Go.Proofs.YtjphmebhofkhcaaDoorW.PrintMore Go.Proofs.YtjphmebhofkhcaaDoor.Rope Go.Proofs.YtjphmebhofkhcaaDoor.PSegAll Go.Proofs.YtjphmebhofkhcaaDoor.Pure
set_option linter.unusedVariables false
set_option linter.unusedSimpArgs false
/-- What the last region's loads read. -/
abbrev BQ (V : World) (k : Nat) (x : G) (p A : Option Addr) (c : Nat) (B : Option Addr) (d : Nat) (g2 : Nat) (s : ByteArray) (g3 : Nat) (m : Int) (w' : World) : Prop := Q5 V k x p A c B d w' ∧ w'.cell? ⟨g2, 2, none⟩ = some (.string s) ∧ w'.cell? ⟨g3, 2, none⟩ = some (.int .i64 m)
theorem BQ.next {V W W' : World} {k : Nat} {x : G} {p A : Option Addr} {c : Nat} {B : Option Addr} {d g2 : Nat} {s : ByteArray} {g3 : Nat} {m : Int} (h : BQ V k x p A c B d g2 s g3 m W) (hb : Below W.heap.size W W') : BQ V k x p A c B d g2 s g3 m W' := ⟨Q5.next h.1 hb, pw_cell_below hb h.2.1, pw_cell_below hb h.2.2⟩
theorem BQ.b {V W : World} {k : Nat} {x : G} {p A : Option Addr} {c : Nat} {B : Option Addr} {d g2 : Nat} {s : ByteArray} {g3 : Nat} {m : Int} (h : BQ V k x p A c B d g2 s g3 m W) : Below V.heap.size V W := Q5.b h.1
set_option maxRecDepth 1000000 in
set_option maxHeartbeats 8000000 in
theorem segTaken_walk (x : G) (A : Option Addr) (c : Nat) (B : Option Addr) (d : Nat) (y : D) (w : World) (hT : Tabs w) (hr : GR w x A c B d) (hy : y.f4.size ≤ 140737488355328) :
    Calls Tryd.prog 7 #[.agg (gC x A c B d), .agg (dC y)] w fun e w' => e = .returned (.bool true) ∧ Below w.heap.size w w' := by
  have HT := Lib.hid hT
  have HR := Lib.hid hr
  clear hT hr
  obtain ⟨y1, hy1⟩ : ∃ Y : G, Y = delG (tG ⟨#[97, 98, 99]⟩) 1 2 7 := ⟨_, rfl⟩
  have HY := Lib.hid hy1
  have E1 := Lib.hid (show y1.f2 = ⟨#[97, 99]⟩ by rw [hy1]; exact abc_del.1)
  clear hy1
  go_enter Tryd.func7, Tryd.ntmps7
  go_upto_region 1 with fail
  refine gen2 (φ := fun W => Code.wp _ _ _ _ W) (P := fun W => JZ w x A c B d y W) ⟨below_alloc (below_alloc (Below.refl _ _) _) _, blk_alloc (blk_new w _) _, blk_newS (by simp)⟩ ?_
  intro V0 hV0
  have Z0 := Lib.hid hV0
  clear hV0
  go_upto_region 2 with (first | (go_at_call 9; refine (text5_calls ⟨#[97, 98, 99]⟩ _ (HT.out.below Z0.out.b) (by decide +kernel) (by decide)).mono ?_; rintro e w1 ⟨p1, A0, c0, B0, d0, rfl, s1, hb⟩; have S0 := Lib.hid s1; have Z1 := Lib.hid (Z0.out.next hb); clear s1 hb) | (go_at_call 28; refine (segDel_calls (tG ⟨#[97, 98, 99]⟩) p1 A0 c0 B0 d0 1 1 7 _ S0.out (tG_ok (by decide +kernel) (by decide) (by decide +kernel) (by decide)) (by decide) abc_places.1 abc_places.2).mono ?_; rw [← HY.out, abc_del.2]; rintro e w2 ⟨r, q1, A1, c1, B1, d1, rfl, s1, hr, hb⟩; have S1 := Lib.hid s1; have R1 := Lib.hid hr; have Z2 := Lib.hid (Z1.out.next hb); clear s1 hr hb S0 Z1))
  refine gen2 (φ := fun W => Code.wp _ _ _ _ W) (P := fun W => JZ w x A c B d y W ∧ SB w2.heap.size y1 q1 A1 c1 B1 d1 W ∧ Rp W r ⟨#[98]⟩) ⟨Z2.out.next (below_alloc (Below.refl _ _) _), ⟨S1.out.below (below_alloc (Below.refl _ _) _), blk_new w2 _⟩, R1.out.below (below_alloc (Below.refl _ _) _)⟩ ?_
  rintro V ⟨hz, hs, hr⟩
  have ZV := Lib.hid hz
  have SV := Lib.hid hs
  have RV := Lib.hid hr
  have s0 := (blk_cell hs.h 0).trans rfl
  have s1 := (blk_cell hs.h 1).trans rfl
  have s2 := (blk_cell hs.h 2).trans rfl
  have s3 := (blk_cell hs.h 3).trans rfl
  have s4 := (blk_cell hs.h 4).trans rfl
  clear hz hs hr Z2 S1 R1 Z0
  generalize w2.heap.size = k at *
  go_wp2_with fail
  (go_at_call 15; refine (ropeG_calls y1 q1 A1 c1 B1 d1 _).mono ?_; rintro e w3 ⟨rfl, hb⟩; have B3 := Lib.hid hb; clear hb)
  go_wp2_with fail
  (go_at_call 16; refine (text_rpS (p := q1) (s := y1.f2) (SV.out.sp.rp.below B3.out)).mono ?_; rw [E1.out]; rintro e w4 ⟨rfl, hb⟩; have B4 := Lib.hid (below_step B3.out hb); clear hb)
  go_wp2_with fail
  (go_at_call 16; refine (text_rpS (p := r) (s := ⟨#[98]⟩) (RV.out.below B4.out)).mono ?_; rintro e w5 ⟨rfl, hb⟩; have Z1 := Lib.hid (ZV.out.next (below_step B4.out hb)); clear hb)
  clear s0 s1 s2 s3 s4 ZV SV RV B3 B4 E1 HY
  go_upto_region 4 with fail
  have x0 := (blk_cell Z1.out.h2 0).trans rfl
  have x1 := (blk_cell Z1.out.h2 1).trans rfl
  have x2 := (blk_cell Z1.out.h2 2).trans rfl
  have x3 := (blk_cell Z1.out.h2 3).trans rfl
  have x4 := (blk_cell Z1.out.h2 4).trans rfl
  have d0 := (blk_cell Z1.out.h3 0).trans rfl
  have d1 := (blk_cell Z1.out.h3 1).trans rfl
  have d2 := (blk_cell Z1.out.h3 2).trans rfl
  have d3 := (blk_cell Z1.out.h3 3).trans rfl
  have d4 := (blk_cell Z1.out.h3 4).trans rfl
  obtain ⟨lb, hlb⟩ : ∃ b, b = loadOk x y.f4 := ⟨_, rfl⟩
  have HLB := Lib.hid hlb
  clear hlb
  cases lb with
  | false =>
    go_upto_region 5 with (first | (go_at_call 18; refine (loaded5_calls x A c B d y _ (HT.out.below Z1.out.b) (HR.out.below Z1.out.b) hy).mono ?_; rw [← HLB.out]; simp only [Bool.false_eq_true, if_false]; rintro e wl ⟨rfl, hb⟩; have ZL := Lib.hid (Z1.out.next hb); clear hb))
    go_wp2
    go_ret
    exact ⟨rfl, below_alloc ZL.out.b _⟩
  | true =>
    obtain ⟨hsm, hok⟩ := loadOk_iff HLB.out.symm
    have HO := Lib.hid hok
    have HSM := Lib.hid (small_iff hsm)
    clear hsm hok
    go_upto_region 5 with (first | (go_at_call 18; refine (loaded5_calls x A c B d y _ (HT.out.below Z1.out.b) (HR.out.below Z1.out.b) hy).mono ?_; rw [← HLB.out]; simp only [if_true]; rintro e wl ⟨p, A5, c5, B5, d5, rfl, sl, hb⟩; have ZL := Lib.hid (Z1.out.next hb); have SL := Lib.hid sl; clear hb sl))
    refine gen2 (φ := fun W => Code.wp _ _ _ _ W) (P := fun W => JZ w x A c B d y W ∧ SB wl.heap.size x p A5 c5 B5 d5 W) ⟨ZL.out.next (below_alloc (Below.refl _ _) _), ⟨SL.out.below (below_alloc (Below.refl _ _) _), blk_new wl _⟩⟩ ?_
    rintro W1 ⟨hz, hs⟩
    have ZW := Lib.hid hz
    have SW := Lib.hid hs
    clear x0 x1 x2 x3 x4 d0 d1 d2 d3 d4
    have s0 := (blk_cell hs.h 0).trans rfl
    have s1 := (blk_cell hs.h 1).trans rfl
    have s2 := (blk_cell hs.h 2).trans rfl
    have s3 := (blk_cell hs.h 3).trans rfl
    have s4 := (blk_cell hs.h 4).trans rfl
    have u2 := (blk_cell hz.h3 2).trans rfl
    clear hz hs ZL SL Z1
    generalize wl.heap.size = gS at *
    by_cases hm : y.f2 ≤ 0
    · have e1 : decide (y.f2 ≤ 0) = true := by simpa using hm
      go_wp2
      go_ret
      exact ⟨rfl, ZW.out.b⟩
    · have e1 : decide (y.f2 ≤ 0) = false := by simpa using hm
      obtain ⟨hv, hhv⟩ : ∃ b, b = hasG x y.f2 := ⟨_, rfl⟩
      have HH := Lib.hid hhv
      have HM := Lib.hid (show 0 < y.f2 by omega)
      clear hhv
      cases hv with
      | true =>
        go_wp2_with (first | (go_at_call 17; refine (segHas_calls x p A5 c5 B5 d5 y.f2 _ SW.out.sp.toGR HO.out.z).mono ?_; rw [← HH.out]; rintro e w6 ⟨rfl, hb⟩; have Z6 := Lib.hid (ZW.out.next hb); clear hb))
        go_ret
        exact ⟨rfl, Z6.out.b⟩
      | false =>
        go_upto_region 7 with (first | (go_at_call 17; refine (segHas_calls x p A5 c5 B5 d5 y.f2 _ SW.out.sp.toGR HO.out.z).mono ?_; rw [← HH.out]; rintro e w6 ⟨rfl, hb⟩; have Z6 := Lib.hid (ZW.out.next hb); have S6 := Lib.hid (SW.out.next hb); clear hb))
        clear s0 s1 s2 s3 s4 u2 hm e1 ZW SW
        have s0 := (blk_cell S6.out.h 0).trans rfl
        have s1 := (blk_cell S6.out.h 1).trans rfl
        have s2 := (blk_cell S6.out.h 2).trans rfl
        have s3 := (blk_cell S6.out.h 3).trans rfl
        have s4 := (blk_cell S6.out.h 4).trans rfl
        have u0 := (blk_cell Z6.out.h3 0).trans rfl
        have u1 := (blk_cell Z6.out.h3 1).trans rfl
        have u2 := (blk_cell Z6.out.h3 2).trans rfl
        obtain ⟨a, ha⟩ : ∃ a, a = clampI (cnt x.f2) y.f0 := ⟨_, rfl⟩
        obtain ⟨b, hb_⟩ : ∃ b, b = a + lenI (cnt x.f2) a y.f1 := ⟨_, rfl⟩
        have hp := places_in HO.out ha hb_
        obtain ⟨z1, hz1⟩ : ∃ Y : G, Y = delG x a b y.f2 := ⟨_, rfl⟩
        obtain ⟨tc, htc⟩ : ∃ s, s = cutT x.f2 a b := ⟨_, rfl⟩
        obtain ⟨z2, hz2⟩ : ∃ Y : G, Y = (untR z1 y.f2 tc (x.f2.size : Int)).1 := ⟨_, rfl⟩
        have TB := Lib.hid (taken_back HO.out hp.1 hp.2.1 hp.2.2.1 HM.out HH.out.symm)
        rw [← htc, ← hz1, ← hz2] at TB
        have DI := Lib.hid (delG_ins HO.out HSM.out.2.1 HSM.out.2.2 hp.1 hp.2.1 hp.2.2.1 y.f2)
        have DZ := Lib.hid (delG_sz HO.out HSM.out.2.1 HSM.out.2.2 hp.1 hp.2.1 y.f2)
        rw [← hz1] at DI DZ
        rw [← htc] at DI
        have HAB := Lib.hid (And.intro ha hb_)
        have HZ := Lib.hid (And.intro hz1 (And.intro htc hz2))
        clear ha hb_ hp hz1 htc hz2
        go_upto_region 8 with (first | (go_at_call 28; refine (segDel_calls x p A5 c5 B5 d5 y.f0 y.f1 y.f2 _ S6.out.sp ⟨HO.out.z, HO.out.v, HO.out.b1, by decide, by decide +kernel⟩ (by have := HSM.out; omega) HAB.out.1 HAB.out.2).mono ?_; rw [← HZ.out.1, ← HZ.out.2.1]; rintro e w7 ⟨r, q1, A1, c1, B1, d1, rfl, s1, hr, hb⟩; have S7 := Lib.hid s1; have R7 := Lib.hid hr; have Z7 := Lib.hid (Z6.out.next hb); clear s1 hr hb))
        refine gen2 (φ := fun W => Code.wp _ _ _ _ W) (P := fun W => JZ w x A c B d y W ∧ SB w7.heap.size z1 q1 A1 c1 B1 d1 W ∧ Rp W r tc) ⟨Z7.out.next (below_alloc (Below.refl _ _) _), ⟨S7.out.below (below_alloc (Below.refl _ _) _), blk_new w7 _⟩, R7.out.below (below_alloc (Below.refl _ _) _)⟩ ?_
        clear s0 s1 s2 s3 s4 u0 u1 u2 Z6 S6 Z7 S7 R7
        rintro V8 ⟨hz, hs, hr⟩
        have Z8 := Lib.hid hz
        have S8 := Lib.hid hs
        have R8 := Lib.hid hr
        have s0 := (blk_cell hs.h 0).trans rfl
        have s1 := (blk_cell hs.h 1).trans rfl
        have s2 := (blk_cell hs.h 2).trans rfl
        have s3 := (blk_cell hs.h 3).trans rfl
        have s4 := (blk_cell hs.h 4).trans rfl
        have u2 := (blk_cell hz.h3 2).trans rfl
        have x2 := (blk_cell hz.h2 2).trans rfl
        clear hz hs hr
        generalize w7.heap.size = k7 at *
        obtain ⟨ok, hok⟩ : ∃ b, b = (untR z1 y.f2 tc (x.f2.size : Int)).2 := ⟨_, rfl⟩
        have EO := Lib.hid (And.intro hok (show ok = true by rw [hok]; exact TB.out.1))
        clear hok
        go_upto_region 9 with (first | (go_at_call 29; refine (segUnt_calls z1 q1 A1 c1 B1 d1 y.f2 r tc (x.f2.size : Int) _ S8.out.sp R8.out DI.out (by have := DZ.out; omega) (by have := DZ.out; omega)).mono ?_; rw [← HZ.out.2.2, ← EO.out.1, EO.out.2]; rintro e w9 ⟨p9, A9, c9, B9, d9, rfl, s9, hb⟩; have S9 := Lib.hid s9; have Z9 := Lib.hid (Z8.out.next hb); clear s9 hb))
        refine gen2 (φ := fun W => Code.wp _ _ _ _ W) (P := fun W => JZ w x A c B d y W ∧ SB w9.heap.size z2 p9 A9 c9 B9 d9 W) ⟨Z9.out.next (below_alloc (Below.refl _ _) _), ⟨S9.out.below (below_alloc (Below.refl _ _) _), blk_new w9 _⟩⟩ ?_
        clear s0 s1 s2 s3 s4 u2 x2 Z8 S8 R8 Z9 S9
        rintro V ⟨hz, hs⟩
        have ZV := Lib.hid hz
        have SV := Lib.hid hs
        have QD := Lib.hid (show BQ V w9.heap.size z2 p9 A9 c9 B9 d9 w.heap.size x.f2 (w.heap.size + 1) y.f2 V.drew from BQ.next ⟨Q5.of hs.h (Below.refl _ _), (blk_cell hz.h2 2).trans rfl, (blk_cell hz.h3 2).trans rfl⟩ (by with_reducible repeat (first | exact Below.refl _ _ | apply pw_below_drewN | apply Below.drew)))
        clear hz hs
        generalize w9.heap.size = k9 at *
        have Z2 := Lib.hid (show Sz z2 by
          rw [HZ.out.2.2]
          have h1 := TB.out.2.1
          exact untR_sz DI.out (by have := DZ.out; omega) (by have := DZ.out; omega) y.f2 _)
        refine wp_region_noPanic ?_
        refine wp_region_held_drew (S := (fun w' => BQ V k9 z2 p9 A9 c9 B9 d9 w.heap.size x.f2 (w.heap.size + 1) y.f2 w')) ?hm_b ?hS_b (fun hHeld => ?_)
        case hm_b => kernel_rfl
        case hS_b => exact QD.out
        refine wpAnyH_take (i := 0) (oi := ?ob0) (v := ?vb0) ?hi_b0 ?k1_b0 ?k2_b0 ?k3_b0 (fun _ _ _ h => h) (Or.inl ⟨?g_b0, ?y_b0⟩) (by assumption) ?r_b0
        case hi_b0 => (simp only [List.getElem?_toArray, List.getElem?_cons_succ, List.getElem?_cons_zero]; rfl)
        case k1_b0 => kernel_rfl
        case k2_b0 => kernel_rfl
        case k3_b0 => kernel_rfl
        case g_b0 => rfl
        case y_b0 => (intro w hSw; (try dsimp only at hSw); first | (go_simp; done) | (go_simp; with_reducible rfl))
        (try simp only [Act.put, List.setIfInBounds_toArray, List.set_cons_zero, List.set_cons_succ])
        refine wpAnyH_take (i := 1) (oi := ?ob1) (v := ?vb1) ?hi_b1 ?k1_b1 ?k2_b1 ?k3_b1 (fun _ _ _ h => h) (Or.inl ⟨?g_b1, ?y_b1⟩) (by assumption) ?r_b1
        case hi_b1 => (simp only [List.getElem?_toArray, List.getElem?_cons_succ, List.getElem?_cons_zero]; rfl)
        case k1_b1 => kernel_rfl
        case k2_b1 => kernel_rfl
        case k3_b1 => kernel_rfl
        case g_b1 => rfl
        case y_b1 => (intro w hSw; (try dsimp only at hSw); first | (go_simp; done) | (go_simp; with_reducible rfl))
        (try simp only [Act.put, List.setIfInBounds_toArray, List.set_cons_zero, List.set_cons_succ])
        refine wpAnyH_take (i := 2) (oi := ?ob2) (v := ?vb2) ?hi_b2 ?k1_b2 ?k2_b2 ?k3_b2 (fun _ _ _ h => h) (Or.inl ⟨?g_b2, ?y_b2⟩) (by assumption) ?r_b2
        case hi_b2 => (simp only [List.getElem?_toArray, List.getElem?_cons_succ, List.getElem?_cons_zero]; rfl)
        case k1_b2 => kernel_rfl
        case k2_b2 => kernel_rfl
        case k3_b2 => kernel_rfl
        case g_b2 => rfl
        case y_b2 => (intro w hSw; (try dsimp only at hSw); first | (go_simp; done) | (go_simp; with_reducible rfl))
        (try simp only [Act.put, List.setIfInBounds_toArray, List.set_cons_zero, List.set_cons_succ])
        refine wpAnyH_take (i := 5) (oi := ?ob5) (v := ?vb5) ?hi_b5 ?k1_b5 ?k2_b5 ?k3_b5 (fun _ _ _ h => h) (Or.inl ⟨?g_b5, ?y_b5⟩) (by assumption) ?r_b5
        case hi_b5 => (simp only [List.getElem?_toArray, List.getElem?_cons_succ, List.getElem?_cons_zero]; rfl)
        case k1_b5 => kernel_rfl
        case k2_b5 => kernel_rfl
        case k3_b5 => kernel_rfl
        case g_b5 => rfl
        case y_b5 => (intro w hSw; (try dsimp only at hSw); first | (go_simp; done) | (go_simp; with_reducible rfl))
        (try simp only [Act.put, List.setIfInBounds_toArray, List.set_cons_zero, List.set_cons_succ])
        refine wpAnyH_take (i := 6) (oi := ?ob6) (v := ?vb6) ?hi_b6 ?k1_b6 ?k2_b6 ?k3_b6 (fun _ _ _ h => h) (Or.inl ⟨?g_b6, ?y_b6⟩) (by assumption) ?r_b6
        case hi_b6 => (simp only [List.getElem?_toArray, List.getElem?_cons_succ, List.getElem?_cons_zero]; rfl)
        case k1_b6 => kernel_rfl
        case k2_b6 => kernel_rfl
        case k3_b6 => kernel_rfl
        case g_b6 => rfl
        case y_b6 => (intro w hSw; (try dsimp only at hSw); first | (go_simp; done) | (go_simp; with_reducible rfl))
        (try simp only [Act.put, List.setIfInBounds_toArray, List.set_cons_zero, List.set_cons_succ])
        refine wpAnyH_ready (rs := [3]) ?k1_b3 (by simp) ?r_b3
        case k1_b3 => kernel_rfl
        refine AllReadyH.cons (o := ?ob3) ?hi_b3 (fun K hK => ?s_b3) ?m_b3
        case hi_b3 => (simp only [List.getElem?_toArray, List.getElem?_cons_succ, List.getElem?_cons_zero]; rfl)
        case m_b3 => exact AllReadyH.nil
        go_simp
        (go_at_call 15; (refine (ropeG_calls z2 p9 A9 c9 B9 d9 _).mono ?_); rintro e wb3 ⟨rfl, hb⟩; have Qb3 := Lib.hid (BQ.next QD.out hb); clear hb)
        (try go_wp2_with fail)
        refine hK.out _ _ Qb3.out (fun hHeld => ?_)
        clear hK K
        (try simp only [Act.put, List.setIfInBounds_toArray, List.set_cons_zero, List.set_cons_succ])
        refine wpAnyH_ready (rs := [4]) ?k1_b4 (by simp) ?r_b4
        case k1_b4 => kernel_rfl
        refine AllReadyH.cons (o := ?ob4) ?hi_b4 (fun K hK => ?s_b4) ?m_b4
        case hi_b4 => (simp only [List.getElem?_toArray, List.getElem?_cons_succ, List.getElem?_cons_zero]; rfl)
        case m_b4 => exact AllReadyH.nil
        go_simp
        (go_at_call 16; (refine (text_rpS (p := p9) (s := z2.f2) (SV.out.sp.rp.below (BQ.b Qb3.out))).mono ?_); rw [TB.out.2.1]; rintro e wb4 ⟨rfl, hb⟩; have Qb4 := Lib.hid (BQ.next Qb3.out hb); clear hb)
        (try go_wp2_with fail)
        refine hK.out _ _ Qb4.out (fun hHeld => ?_)
        clear hK K
        (try simp only [Act.put, List.setIfInBounds_toArray, List.set_cons_zero, List.set_cons_succ])
        refine wpAnyH_take (i := 7) (oi := ?ob7) (v := ?vb7) ?hi_b7 ?k1_b7 ?k2_b7 ?k3_b7 (fun _ _ _ h => h) (Or.inl ⟨?g_b7, ?y_b7⟩) (by assumption) ?r_b7
        case hi_b7 => (simp only [List.getElem?_toArray, List.getElem?_cons_succ, List.getElem?_cons_zero]; rfl)
        case k1_b7 => kernel_rfl
        case k2_b7 => kernel_rfl
        case k3_b7 => kernel_rfl
        case g_b7 => rfl
        case y_b7 => (intro w hSw; (try dsimp only at hSw); first | (go_simp; done) | (go_simp; with_reducible rfl))
        (try simp only [Act.put, List.setIfInBounds_toArray, List.set_cons_zero, List.set_cons_succ])
        refine wpAnyH_take (i := 8) (oi := ?ob8) (v := ?vb8) ?hi_b8 ?k1_b8 ?k2_b8 ?k3_b8 (fun _ _ _ h => h) (Or.inl ⟨?g_b8, ?y_b8⟩) (by assumption) ?r_b8
        case hi_b8 => (simp only [List.getElem?_toArray, List.getElem?_cons_succ, List.getElem?_cons_zero]; rfl)
        case k1_b8 => kernel_rfl
        case k2_b8 => kernel_rfl
        case k3_b8 => kernel_rfl
        case g_b8 => rfl
        case y_b8 => (intro w hSw; (try dsimp only at hSw); first | (go_simp; done) | (go_simp; with_reducible rfl))
        (try simp only [Act.put, List.setIfInBounds_toArray, List.set_cons_zero, List.set_cons_succ])
        refine wpAnyH_take (i := 9) (oi := ?ob9) (v := ?vb9) ?hi_b9 ?k1_b9 ?k2_b9 ?k3_b9 (fun _ _ _ h => h) (Or.inl ⟨?g_b9, ?y_b9⟩) (by assumption) ?r_b9
        case hi_b9 => (simp only [List.getElem?_toArray, List.getElem?_cons_succ, List.getElem?_cons_zero]; rfl)
        case k1_b9 => kernel_rfl
        case k2_b9 => kernel_rfl
        case k3_b9 => kernel_rfl
        case g_b9 => rfl
        case y_b9 => (intro w hSw; (try dsimp only at hSw); first | (go_simp; done) | (go_simp; with_reducible rfl))
        (try simp only [Act.put, List.setIfInBounds_toArray, List.set_cons_zero, List.set_cons_succ])
        refine wpAnyH_take (i := 10) (oi := ?ob10) (v := ?vb10) ?hi_b10 ?k1_b10 ?k2_b10 ?k3_b10 (fun _ _ _ h => h) (Or.inl ⟨?g_b10, ?y_b10⟩) (by assumption) ?r_b10
        case hi_b10 => (simp only [List.getElem?_toArray, List.getElem?_cons_succ, List.getElem?_cons_zero]; rfl)
        case k1_b10 => kernel_rfl
        case k2_b10 => kernel_rfl
        case k3_b10 => kernel_rfl
        case g_b10 => rfl
        case y_b10 => (intro w hSw; (try dsimp only at hSw); first | (go_simp; done) | (go_simp; with_reducible rfl))
        (try simp only [Act.put, List.setIfInBounds_toArray, List.set_cons_zero, List.set_cons_succ])
        refine wpAnyH_take (i := 11) (oi := ?ob11) (v := ?vb11) ?hi_b11 ?k1_b11 ?k2_b11 ?k3_b11 (fun _ _ _ h => h) (Or.inl ⟨?g_b11, ?y_b11⟩) (by assumption) ?r_b11
        case hi_b11 => (simp only [List.getElem?_toArray, List.getElem?_cons_succ, List.getElem?_cons_zero]; rfl)
        case k1_b11 => kernel_rfl
        case k2_b11 => kernel_rfl
        case k3_b11 => kernel_rfl
        case g_b11 => rfl
        case y_b11 => (intro w hSw; (try dsimp only at hSw); first | (go_simp; done) | (go_simp; with_reducible rfl))
        (try simp only [Act.put, List.setIfInBounds_toArray, List.set_cons_zero, List.set_cons_succ])
        refine wpAnyH_take (i := 12) (oi := ?ob12) (v := ?vb12) ?hi_b12 ?k1_b12 ?k2_b12 ?k3_b12 (fun _ _ _ h => h) (Or.inl ⟨?g_b12, ?y_b12⟩) (by assumption) ?r_b12
        case hi_b12 => (simp only [List.getElem?_toArray, List.getElem?_cons_succ, List.getElem?_cons_zero]; rfl)
        case k1_b12 => kernel_rfl
        case k2_b12 => kernel_rfl
        case k3_b12 => kernel_rfl
        case g_b12 => rfl
        case y_b12 => (intro w hSw; (try dsimp only at hSw); first | (go_simp; done) | (go_simp; with_reducible rfl))
        (try simp only [Act.put, List.setIfInBounds_toArray, List.set_cons_zero, List.set_cons_succ])
        refine wpAnyH_ready (rs := [13]) ?k1_b13 (by simp) ?r_b13
        case k1_b13 => kernel_rfl
        refine AllReadyH.cons (o := ?ob13) ?hi_b13 (fun K hK => ?s_b13) ?m_b13
        case hi_b13 => (simp only [List.getElem?_toArray, List.getElem?_cons_succ, List.getElem?_cons_zero]; rfl)
        case m_b13 => exact AllReadyH.nil
        go_simp
        (go_at_call 17; (refine (segHas_calls z2 p9 A9 c9 B9 d9 y.f2 _ (SV.out.sp.below (BQ.b Qb4.out)).toGR Z2.out).mono ?_); rw [TB.out.2.2]; rintro e wb13 ⟨rfl, hb⟩; have Qb13 := Lib.hid (BQ.next Qb4.out hb); clear hb)
        (try go_wp2_with fail)
        refine hK.out _ _ Qb13.out (fun hHeld => ?_)
        clear hK K
        (try simp only [Act.put, List.setIfInBounds_toArray, List.set_cons_zero, List.set_cons_succ])
        refine wpAnyH_take (i := 14) (oi := ?ob14) (v := ?vb14) ?hi_b14 ?k1_b14 ?k2_b14 ?k3_b14 (fun _ _ _ h => h) (Or.inl ⟨?g_b14, ?y_b14⟩) (by assumption) ?r_b14
        case hi_b14 => (simp only [List.getElem?_toArray, List.getElem?_cons_succ, List.getElem?_cons_zero]; rfl)
        case k1_b14 => kernel_rfl
        case k2_b14 => kernel_rfl
        case k3_b14 => kernel_rfl
        case g_b14 => rfl
        case y_b14 => (intro w hSw; (try dsimp only at hSw); first | (go_simp; done) | (go_simp; with_reducible rfl))
        (try simp only [Act.put, List.setIfInBounds_toArray, List.set_cons_zero, List.set_cons_succ])
        refine wpAnyH_take (i := 15) (oi := ?ob15) (v := ?vb15) ?hi_b15 ?k1_b15 ?k2_b15 ?k3_b15 (fun _ _ _ h => h) (Or.inl ⟨?g_b15, ?y_b15⟩) (by assumption) ?r_b15
        case hi_b15 => (simp only [List.getElem?_toArray, List.getElem?_cons_succ, List.getElem?_cons_zero]; rfl)
        case k1_b15 => kernel_rfl
        case k2_b15 => kernel_rfl
        case k3_b15 => kernel_rfl
        case g_b15 => rfl
        case y_b15 => (intro w hSw; (try dsimp only at hSw); first | (go_simp; done) | (go_simp; with_reducible rfl))
        (try simp only [Act.put, List.setIfInBounds_toArray, List.set_cons_zero, List.set_cons_succ])
        refine wpAnyH_take (i := 16) (oi := ?ob16) (v := ?vb16) ?hi_b16 ?k1_b16 ?k2_b16 ?k3_b16 (fun _ _ _ h => h) (Or.inl ⟨?g_b16, ?y_b16⟩) (by assumption) ?r_b16
        case hi_b16 => (simp only [List.getElem?_toArray, List.getElem?_cons_succ, List.getElem?_cons_zero]; rfl)
        case k1_b16 => kernel_rfl
        case k2_b16 => kernel_rfl
        case k3_b16 => kernel_rfl
        case g_b16 => rfl
        case y_b16 => (intro w hSw; (try dsimp only at hSw); first | (go_simp; done) | (go_simp; with_reducible rfl))
        (try simp only [Act.put, List.setIfInBounds_toArray, List.set_cons_zero, List.set_cons_succ])
        refine wpAnyH_done (by kernel_rfl) ?_ _
        refine NoPanic.normal ?_
        go_wp2
        go_ret
        exact ⟨rfl, below_step ZV.out.b (BQ.b Qb13.out)⟩
end Go.Proofs.YtjphmebhofkhcaaDoor.Seg
