/- The walk of the law UndoDepth: it answers true. Conditions: the sizes that every row has; Go's two tables of utf8 as they are laid. -/
import Derived.Test.YthkihkkmoknbjaaDoorGC
namespace Go.Proofs.YthkihkkmoknbjaaDoor.Undo
open Go.RowKit Go.Proofs.YthkihkkmoknbjaaDoorW.PrintWords Go.Proofs.YthkihkkmoknbjaaDoorW.PrintLast Go.Proofs.YthkihkkmoknbjaaDoorW.PrintMore Go.Proofs.YthkihkkmoknbjaaDoor.Rope Go.Proofs.YthkihkkmoknbjaaDoor.PUndoFinds
set_option linter.unusedVariables false
set_option linter.unusedSimpArgs false
attribute [local go_sem] max2_int min2_int max_two min_two
/-- What holds all along the last drawn region. -/
abbrev Q16 (w0 : World) (g : Nat) (A : Option Addr) (n c : Nat) (w' : World) : Prop := w'.cell? ⟨g, 0, none⟩ = some (.slice A n c) ∧ Below w0.heap.size w0 w'
theorem Q16.b {w0 W : World} {g : Nat} {A : Option Addr} {n c : Nat} (h : Q16 w0 g A n c W) : Below w0.heap.size w0 W := h.2
theorem Q16.next {w0 W W' : World} {g : Nat} {A : Option Addr} {n c : Nat} (h : Q16 w0 g A n c W) (hb : Below W.heap.size W W') : Q16 w0 g A n c W' := ⟨pw_cell_below hb h.1, below_step h.2 hb⟩
def RetPushN (ts : List Th) (w : World) (e : Ending) (w' : World) : Prop :=
  ∃ A c, e = .returned (.tuple #[.agg #[.slice A ts.length c], .nilIface]) ∧ Stk w' (.agg #[.slice A ts.length c]) ts ∧ Below w.heap.size w w'
def RetPushS (ts : List Th) (t0 : Th) (w : World) (e : Ending) (w' : World) : Prop :=
  ∃ (A : Option Addr) (c : Nat) (y : TypeId × Value), e = .returned (.tuple #[.agg #[.slice A ts.length c], .iface y.1 y.2]) ∧ Stk w' (.agg #[.slice A ts.length c]) ts ∧ ThR w' (encI y) t0 ∧ Below w.heap.size w w'
theorem push_none (A : Option Addr) (n c : Nat) (ts ts' : List Th) (y : TypeId × Value) (t : Th) (d : Int) (w : World) (h : Stk w (.agg #[.slice A n c]) ts) (ht : ThR w (encI y) t) (hl : ts.length ≤ 1099511627776) (e1 : pushT ts t d = ts') (e2 : pushO ts t d = none) :
    Calls Tryd.prog 18 #[.agg #[.slice A n c], .iface y.1 y.2, .int .i64 d] w (RetPushN ts' w) := by
  refine (push_calls A n c ts y t d w h ht hl).mono ?_
  rintro e w' ⟨A', c', v, rfl, hs, hv, hb⟩
  rw [e2] at hv
  have ev : v = .nilIface := hv
  subst ev
  rw [e1] at hs ⊢
  exact ⟨A', c', rfl, hs, hb⟩
theorem push_some (A : Option Addr) (n c : Nat) (ts ts' : List Th) (y : TypeId × Value) (t t0 : Th) (d : Int) (w : World) (h : Stk w (.agg #[.slice A n c]) ts) (ht : ThR w (encI y) t) (hl : ts.length ≤ 1099511627776) (e1 : pushT ts t d = ts') (e2 : pushO ts t d = some t0) :
    Calls Tryd.prog 18 #[.agg #[.slice A n c], .iface y.1 y.2, .int .i64 d] w (RetPushS ts' t0 w) := by
  refine (push_calls A n c ts y t d w h ht hl).mono ?_
  rintro e w' ⟨A', c', v, rfl, hs, hv, hb⟩
  rw [e2] at hv
  obtain ⟨y', ey⟩ := ThR.form hv
  have hv' : ThR w' (encI y') t0 := by rw [← ey]; exact hv
  subst ey
  rw [e1] at hs ⊢
  exact ⟨A', c', y', rfl, hs, hv', hb⟩
theorem push0 (t : Th) : pushT [] t 2 = [t] ∧ pushO [] t 2 = none := by
  constructor
  · unfold pushT; rw [if_neg (by decide)]; rfl
  · unfold pushO; rw [if_neg (by decide)]
theorem stk_zero (xs : List U) (d : Nat) (w : World) : Stk w (.agg #[.slice none 0 0]) (stk xs d 0) := by
  have e : stk xs d 0 = [] := by simp [stk]
  rw [e]
  exact stk_nil w
theorem put_th (w : World) : ThR w (encI (27, .agg #[.int .i64 0, .int .i64 3, .int .i64 0])) (.put 0 3 0) := rfl
set_option maxRecDepth 1000000 in
set_option maxHeartbeats 8000000 in
theorem undoDepth_walk (A : Option Addr) (c : Nat) (xs : List U) (d : Int) (w : World) (hT : Tabs w) (hr : Kd.C k23 w A xs.length xs) (hc : xs.length ≤ c) (hn : xs.length ≤ 2932031007402) (hz : ∀ x ∈ xs, x.f4.size ≤ 140737488351232) :
    Calls Tryd.prog 5 #[.slice A xs.length c, .int .i64 d] w fun e w' => e = .returned (.bool true) ∧ Below w.heap.size w w' := by
  obtain ⟨bs, hbs, hsm⟩ := small_ev xs hn hz
  obtain ⟨k1, hk1⟩ := Go.Proofs.YthkihkkmoknbjaaDoorW.PrintWords.Ev.rounds hbs
  have HT := Lib.hid hT
  have HR := Lib.hid hr
  have K1 := Lib.hid hk1
  have SM := Lib.hid hsm
  clear hT hr hz hbs hk1 hsm
  go_enter Tryd.func5, Tryd.ntmps5
  go_wp2_with fail
  (go_at_call 18; refine (push_none none 0 0 [] [.put 0 3 0] (27, .agg #[.int .i64 0, .int .i64 3, .int .i64 0]) (.put 0 3 0) 2 _ (stk_nil _) (put_th _) (by decide) (push0 _).1 (push0 _).2).mono ?_; rintro e w1 ⟨A1, c1, rfl, hs1, hb1⟩)
  have S1 := Lib.hid hs1
  have B1 := Lib.hid hb1
  clear hs1 hb1
  go_upto_region 2 with (first | ((with_reducible refine gate_dst (N := 5) rfl ?_); refine box_event ?hg (N := 5) ?hd (cs := #[.slice none 0 0]) (t := 38) ?hr ?_; (case hd => rfl); (case hg => rfl); (case hr => first | (go_simp; done) | (go_simp; rfl)); intro gA hgA wA hxA hbA; have GA := Lib.hid (show w.heap.size ≤ gA by rw [hgA]; exact B1.out.size); have GB := Lib.hid (show w1.heap.size ≤ gA by rw [hgA]; exact Nat.le_refl _); have BA := Lib.hid hbA; have XA := Lib.hid hxA; have y0 := (blk_cell hxA 0).trans rfl; have z0 := blk_frozen hxA 0; clear hgA hxA hbA))
  refine gen2 (φ := fun W => Code.wp _ _ _ _ W) (P := fun W => Below w.heap.size w W ∧ W.cell? ⟨gA, 0, none⟩ = some (.slice A1 1 c1) ∧ Hid (Stk W (.agg #[.slice A1 1 c1]) [.put 0 3 0])) ⟨below_set (below_step B1.out BA.out) GA.out, (blk_cell (blk_set XA.out 0 (.slice A1 1 c1)) 0).trans rfl, Lib.hid (S1.out.below (below_set BA.out GB.out))⟩ ?_
  rintro W ⟨hbW, y1, SW⟩
  have BW := Lib.hid hbW
  clear hbW y0 z0 XA BA GA GB S1 B1
  go_wp2_with fail
  (go_at_call 15; refine (plain_calls (.agg #[.slice A1 1 c1]) [.put 0 3 0] _ SW.out (by decide)).mono ?_; rintro e w2 ⟨v2, rfl, hr2, hb2⟩)
  have B2 := Lib.hid (below_step BW.out hb2)
  obtain ⟨A2, c2, e2⟩ := Kd.R_slice hr2
  have e3 : v2 = .slice A2 1 c2 := e2
  subst e3
  clear hr2 hb2 SW y1 BW e2
  go_wp2_with fail
  (go_at_call 16; refine (chancellaw07_small.calls k1 A c xs bs _ (Kd.C_below HR.out B2.out) hc K1.out).mono ?_; rintro e w3 ⟨rfl, hb3⟩)
  have B3 := Lib.hid (below_step B2.out hb3)
  clear hb3 B2
  cases bs with
  | false =>
    go_wp2
    go_ret
    exact ⟨rfl, B3.out⟩
  | true =>
    obtain ⟨hl60, hz2⟩ := SM.out rfl
    have hn2 : xs.length ≤ 1099511627776 := by omega
    have hz3 := Lib.hid (show ∀ x ∈ xs, x.f4.size ≤ 1099511627776 from fun x hx => by have := hz2 x hx; omega)
    obtain ⟨k2, hk2⟩ := Go.Proofs.YthkihkkmoknbjaaDoorW.PrintWords.Ev.rounds (refRightU_ev xs hn (fun x hx => by have := hz3.out x hx; omega))
    have K2 := Lib.hid hk2
    clear hz2 hk2
    cases hb : okB xs with
    | false =>
      rw [hb] at K2
      clear hb
      go_wp2_with fail
      (go_at_call 10; refine (chancelref07_Right.calls k2 A c xs false _ (Kd.C_below HR.out B3.out) hc K2.out).mono ?_; rintro e w5 ⟨rfl, hb5⟩)
      have B5 := Lib.hid (below_step B3.out hb5)
      clear hb5
      go_wp2
      go_ret
      exact ⟨rfl, B5.out⟩
    | true =>
      rw [hb] at K2
      have OK := Lib.hid (okB_true.1 hb)
      clear hb
      go_wp2_with fail
      (go_at_call 10; refine (chancelref07_Right.calls k2 A c xs true _ (Kd.C_below HR.out B3.out) hc K2.out).mono ?_; rintro e w5 ⟨rfl, hb5⟩)
      have B5 := Lib.hid (below_step B3.out hb5)
      clear hb5 B3
      by_cases hd1 : d < 1
      · have d1 : decide (d < 1) = true := by simp; omega
        clear hd1
        go_wp2
        go_ret
        exact ⟨rfl, B5.out⟩
      · by_cases hd2 : 100 < d
        · have d1 : decide (d < 1) = false := by simp; omega
          have d2 : decide (100 < d) = true := by simp; omega
          clear hd1 hd2
          go_wp2
          go_ret
          exact ⟨rfl, B5.out⟩
        · have d1 : decide (d < 1) = false := by simp; omega
          have d2 : decide (100 < d) = false := by simp; omega
          obtain ⟨D, rfl⟩ := Int.eq_ofNat_of_zero_le (show 0 ≤ d by omega)
          have hD1 : 1 ≤ D := by omega
          have hD2 : D ≤ 100 := by omega
          clear hd1 hd2
          go_wp2_with (first | ((with_reducible refine gate_dst (N := 7) rfl ?_); refine box_event ?hg (N := 7) ?hd (cs := #[.slice none 0 0]) (t := 38) ?hr ?_; (case hd => rfl); (case hg => rfl); (case hr => first | (go_simp; done) | (go_simp; rfl)); intro gS hgS wS hxS hbS; have GS := Lib.hid (show w.heap.size ≤ gS by rw [hgS]; exact B5.out.size); have BS := Lib.hid (below_step B5.out hbS); have XS := Lib.hid hxS; clear hgS hxS hbS))
          clear d1 d2 B5
          have SS : Hid (Stk wS (.agg #[.slice none 0 0]) (stk xs D 0)) := Lib.hid (stk_zero xs D _)
          go_loopw [8, 41] (fun v8 v41 wr => ∃ (i q : Nat) (A1 : Option Addr) (n1 c1 : Nat), v8 = .int .i64 (q : Int) ∧ Hid (q = i - D) ∧ v41 = .int .i64 (i : Int) ∧ i ≤ xs.length ∧ Hid (wr.heap[gS]? = some (.cells #[.slice A1 n1 c1] 38 (0, 0))) ∧ Hid (Stk wr (.agg #[.slice A1 n1 c1]) (stk xs D i)) ∧ Hid (Below w.heap.size w wr)) (fun _ v41 _ => xs.length - cnt v41)
          case atStart => exact ⟨0, 0, _, _, _, rfl, Lib.hid (by omega), rfl, by omega, XS, SS, BS⟩
          case round =>
            clear XS SS BS
            obtain ⟨i, q, A1, n1, c1, rfl, HQ, rfl, hi, XS, SS, BR⟩ := hrel
            have hq : q ≤ 60 := by have := HQ.out; omega
            by_cases hlt : i < xs.length
            · have d1 : decide ((i : Int) < (xs.length : Int)) = true := by simp; omega
              obtain ⟨x, hx⟩ : ∃ x, xs[i]? = some x := ⟨_, List.getElem?_eq_getElem hlt⟩
              obtain ⟨ad, ea, hx0, hx1, hx2, hx3, hx4⟩ := at_U HR.out hx hlt
              subst ea
              have hB := BR.out
              replace hx0 := pw_cell_below hB hx0
              replace hx1 := pw_cell_below hB hx1
              replace hx2 := pw_cell_below hB hx2
              replace hx3 := pw_cell_below hB hx3
              replace hx4 := pw_cell_below hB hx4
              have hzx := hz3.out x (List.mem_of_getElem? hx)
              have OKX := Lib.hid (OK.out x (List.mem_of_getElem? hx))
              have NX := Lib.hid (stk_next hx hD1 hlt)
              have SL := Lib.hid (show (stk xs D i).length ≤ 1099511627776 by rw [stk_len xs D i hi]; omega)
              have SL2 := Lib.hid (stk_len xs D (i + 1) (by omega))
              clear hB hx
              have b1 : (0 : Int) ≤ (i : Int) := by omega
              have b2 : (i : Int) < (xs.length : Int) := by omega
              go_upto_region 12 with (first | ((with_reducible refine gate_dst (N := 10) rfl ?_); refine box_event ?hg (N := 10) ?hd (cs := #[.int .i64 0, .int .i64 0, .int .i64 0, .int .i64 0, .string ByteArray.empty]) (t := 23) ?hr ?_; (case hd => rfl); (case hg => rfl); (case hr => first | (go_simp; done) | (go_simp; rfl)); intro gX hgX wX hxX hbX; have GX := Lib.hid (show wr.heap.size ≤ gX by rw [hgX]; exact Nat.le_refl _); have BX := Lib.hid hbX; have XX := Lib.hid hxX; have y0 := (blk_cell hxX 0).trans rfl; have y1 := (blk_cell hxX 1).trans rfl; have y2 := (blk_cell hxX 2).trans rfl; have y3 := (blk_cell hxX 3).trans rfl; have y4 := (blk_cell hxX 4).trans rfl; have z0 := blk_frozen hxX 0; have z1 := blk_frozen hxX 1; have z2 := blk_frozen hxX 2; have z3 := blk_frozen hxX 3; have z4 := blk_frozen hxX 4; clear hgX hxX hbX))
              refine gen2 (φ := fun W => Code.wp _ _ _ _ W) (P := fun W => Below wr.heap.size wr W ∧ W.heap[gX]? = some (.cells (ldCells x) 23 (0, 0))) ⟨below_set (below_set (below_set (below_set (below_set BX.out GX.out) GX.out) GX.out) GX.out) GX.out, by simpa using blk_set (blk_set (blk_set (blk_set (blk_set XX.out 0 (.int .i64 x.f0)) 1 (.int .i64 x.f1)) 2 (.int .i64 x.f2)) 3 (.int .i64 x.f3)) 4 (.string x.f4)⟩ ?_
              rintro V ⟨hbV, hxV⟩
              clear hx0 hx1 hx2 hx3 hx4 y0 y1 y2 y3 y4 z0 z1 z2 z3 z4 XX BX GX
              have BV := Lib.hid hbV
              have BwV := Lib.hid (below_step BR.out hbV)
              have a0 : V.cell? ⟨gX, 0, none⟩ = some (.int .i64 x.f0) := blk_cell hxV 0
              have a1 : V.cell? ⟨gX, 1, none⟩ = some (.int .i64 x.f1) := blk_cell hxV 1
              have a2 : V.cell? ⟨gX, 2, none⟩ = some (.int .i64 x.f2) := blk_cell hxV 2
              have a3 : V.cell? ⟨gX, 3, none⟩ = some (.int .i64 x.f3) := blk_cell hxV 3
              have a4 : V.cell? ⟨gX, 4, none⟩ = some (.string x.f4) := blk_cell hxV 4
              have XSV := Lib.hid (blk_below XS.out hbV)
              have s0 : V.cell? ⟨gS, 0, none⟩ = some (.slice A1 n1 c1) := blk_cell XSV.out 0
              have SV := Lib.hid (SS.out.below hbV)
              clear hbV hxV XS SS
              by_cases hD : i < D
              · have HDD := Lib.hid hD
                have PN := Lib.hid (NX.out.2.2 hD)
                go_region_with (first
                  | (go_at_call 11; refine (thing_calls x _ (HT.out.below (by repeat (first | exact BwV.out | apply Below.drew))) OKX.out hzx).mono ?_; rintro e w6 ⟨y, rfl, hy, hb6⟩; have HY := Lib.hid hy; have B6 := Lib.hid (show Below V.heap.size V w6 from below_then (Below.refl _ _).drew (Nat.le_refl _) hb6); have s1 : w6.cell? ⟨gS, 0, none⟩ = some (.slice A1 n1 c1) := pw_cell_below B6.out s0; clear hy hb6)
                  | (go_at_call 18; refine (push_none A1 n1 c1 (stk xs D i) (stk xs D (i + 1)) y (thOf x) (D : Int) _ (SV.out.below B6.out) HY.out SL.out NX.out.1 PN.out).mono ?_; rintro e w7 ⟨A7, c7, rfl, hs7, hb7⟩; have S7 := Lib.hid hs7; have B7 := Lib.hid (below_step B6.out hb7); have x7 := blk_below XSV.out B7.out; have X7 := Lib.hid x7; have s2 : w7.cell? ⟨gS, 0, none⟩ = some (.slice A1 n1 c1) := blk_cell x7 0; have f2 := blk_frozen x7 0; clear hs7 hb7 x7))
                all_goals
                  go_wp2
                  go_roundw
                  case rel => exact ⟨i + 1, q, A7, _, c7, rfl, Lib.hid (by have := HQ.out; have := HDD.out; omega), by go_num, by omega, Lib.hid (blk_put X7.out 0 _ rfl), Lib.hid (S7.out.move (set_type X7.out (by decide) _ _) (set_type X7.out (by decide) _ _)), Lib.hid (below_set (below_step BwV.out B7.out) GS.out)⟩
                  case measure =>
                    simp only [cnt]
                    omega
              · have HDD := Lib.hid hD
                obtain ⟨t0, ht0⟩ : ∃ t0, pushO (stk xs D i) (thOf x) (D : Int) = some t0 := Option.ne_none_iff_exists'.1 (fun e => hD (NX.out.2.1 e))
                have PN := Lib.hid ht0
                clear ht0
                go_region_with (first
                  | (go_at_call 11; refine (thing_calls x _ (HT.out.below (by repeat (first | exact BwV.out | apply Below.drew))) OKX.out hzx).mono ?_; rintro e w6 ⟨y, rfl, hy, hb6⟩; have HY := Lib.hid hy; have B6 := Lib.hid (show Below V.heap.size V w6 from below_then (Below.refl _ _).drew (Nat.le_refl _) hb6); have s1 : w6.cell? ⟨gS, 0, none⟩ = some (.slice A1 n1 c1) := pw_cell_below B6.out s0; clear hy hb6)
                  | (go_at_call 18; refine (push_some A1 n1 c1 (stk xs D i) (stk xs D (i + 1)) y (thOf x) t0 (D : Int) _ (SV.out.below B6.out) HY.out SL.out NX.out.1 PN.out).mono ?_; rintro e w7 ⟨A7, c7, y7, rfl, hs7, hy7, hb7⟩; have S7 := Lib.hid hs7; have B7 := Lib.hid (below_step B6.out hb7); have x7 := blk_below XSV.out B7.out; have X7 := Lib.hid x7; have s2 : w7.cell? ⟨gS, 0, none⟩ = some (.slice A1 n1 c1) := blk_cell x7 0; have f2 := blk_frozen x7 0; clear hs7 hb7 x7))
                all_goals
                  go_wp2
                  go_roundw
                  case rel => exact ⟨i + 1, q + 1, A7, _, c7, by go_num, Lib.hid (by have := HQ.out; have := HDD.out; omega), by go_num, by omega, Lib.hid (blk_put X7.out 0 _ rfl), Lib.hid (S7.out.move (set_type X7.out (by decide) _ _) (set_type X7.out (by decide) _ _)), Lib.hid (below_set (below_step BwV.out B7.out) GS.out)⟩
                  case measure =>
                    simp only [cnt]
                    omega
            · have d1 : decide ((i : Int) < (xs.length : Int)) = false := by simp; omega
              obtain rfl : i = xs.length := by omega
              have hk : ((stk xs D xs.length).map plainTh) = xs.drop (xs.length - D) := by
                unfold stk
                rw [List.take_length, plain_of (fun y hy => OK.out y (List.mem_of_mem_drop hy))]
              have HK := Lib.hid hk
              have SL := Lib.hid (show (stk xs D xs.length).length ≤ 1099511627776 by rw [stk_len xs D xs.length hi]; omega)
              have s0 : wr.cell? ⟨gS, 0, none⟩ = some (.slice A1 n1 c1) := blk_cell XS.out 0
              have HQ2 := HQ
              clear hk
              by_cases hm : xs.length < D
              · obtain ⟨m, hw, hm0⟩ : ∃ m : Int, IntKind.i64.wrap ((xs.length : Int) - (D : Int)) = m ∧ m < 0 := ⟨_, IntWalk.i64_in _ (by omega), by omega⟩
                obtain ⟨A', c', hsl, hcut, hcc⟩ := cut_at HR.out hc 0 (by omega)
                rw [show ((0 : Nat) : Int) = 0 from rfl] at hsl
                have hq0 : ((q : Int) == 0) = true := by have := HQ.out; simp; omega
                rw [show xs.length - D = 0 by omega] at HK
                have hyl : (xs.drop 0).length ≤ 2932031007402 := by rw [List.length_drop]; omega
                generalize xs.drop 0 = ys at HK hsl hcut hcc hyl
                have HCUT := Lib.hid hcut
                have HCC := Lib.hid hcc
                obtain ⟨k3, hk3⟩ := Go.Proofs.YthkihkkmoknbjaaDoorW.PrintWords.Ev.rounds (same_ev ys hyl)
                have K3 := Lib.hid hk3
                clear hcut hcc hk3 hm HQ hyl
                go_upto_region 16 with (fail)
                have QS := Lib.hid (show Q16 wr gS A1 n1 c1 wr from ⟨s0, Below.refl _ _⟩)
                clear s0
                go_region_held3 (fun w' => Q16 wr gS A1 n1 c1 w')
                  (first | (with_reducible assumption) | (with_reducible exact HS6.out) | (with_reducible exact HS7.out) | exact QS.out.next (by (with_reducible repeat (first | exact Below.refl _ _ | apply pw_below_drewN | apply Below.drew))))
                  (first
                  | (go_at_call 15; (refine (plain_calls (.agg #[.slice A1 n1 c1]) (stk xs D xs.length) _ (SS.out.below ?ca) SL.out).mono ?_); (case ca => exact Q16.b (w0 := wr) (g := gS) (A := A1) (n := n1) (c := c1) (by assumption)); rintro e w6 ⟨v6, rfl, hr6, hb6⟩; rw [HK.out] at hr6; obtain ⟨A6, c6, e6, hc6, hC6⟩ := Kd.R_reads hr6; subst e6; have C6 := Lib.hid hC6; have HC6 := Lib.hid hc6; have HS6 := Lib.hid (Q16.next (w0 := wr) (g := gS) (A := A1) (n := n1) (c := c1) (by assumption) hb6); clear hr6 hb6 hC6 hc6)
                  | (go_at_call 17; (refine (chancelref07_Same.calls k3 A6 c6 ys A' c' ys true _ ?cb HC6.out ?cc HCC.out K3.out).mono ?_); (case cb => first | exact C6.out | exact Kd.C_below C6.out (by (with_reducible repeat (first | exact Below.refl _ _ | apply pw_below_drewN | apply Below.drew)))); (case cc => exact Kd.C_below HCUT.out (below_step BR.out (Q16.b (w0 := wr) (g := gS) (A := A1) (n := n1) (c := c1) (by assumption)))); rintro e w7 ⟨rfl, hb7⟩; have HS7 := Lib.hid (Q16.next (w0 := wr) (g := gS) (A := A1) (n := n1) (c := c1) (by assumption) (below_drawn hb7)); clear hb7))
                all_goals
                  go_wp2
                  go_ret
                  exact ⟨rfl, below_step BR.out HS7.out.2⟩
              · obtain ⟨k, hkk⟩ : ∃ k, k = xs.length - D := ⟨_, rfl⟩
                obtain ⟨m, hmk⟩ : ∃ m : Int, m = (k : Int) := ⟨_, rfl⟩
                have hw : IntKind.i64.wrap ((xs.length : Int) - (D : Int)) = m := by rw [IntWalk.i64_in _ (by omega)]; omega
                have hm0 : (m < 0) = False := eq_false (by omega)
                have hm1 : ¬ m < 0 := by omega
                obtain ⟨A', c', hsl, hcut, hcc⟩ := cut_at HR.out hc k (by omega)
                have hq0 : ((q : Int) == m) = true := by have := HQ.out; simp; omega
                rw [← hkk] at HK
                rw [← hmk] at hsl
                have HKK := Lib.hid hkk
                clear hkk hmk
                have hyl : (xs.drop k).length ≤ 2932031007402 := by rw [List.length_drop]; omega
                generalize xs.drop k = ys at HK hsl hcut hcc hyl
                have HCUT := Lib.hid hcut
                have HCC := Lib.hid hcc
                obtain ⟨k3, hk3⟩ := Go.Proofs.YthkihkkmoknbjaaDoorW.PrintWords.Ev.rounds (same_ev ys hyl)
                have K3 := Lib.hid hk3
                clear hcut hcc hk3 hm HQ hyl
                go_upto_region 16 with (fail)
                have QS := Lib.hid (show Q16 wr gS A1 n1 c1 wr from ⟨s0, Below.refl _ _⟩)
                clear s0
                go_region_held3 (fun w' => Q16 wr gS A1 n1 c1 w')
                  (first | (with_reducible assumption) | (with_reducible exact HS6.out) | (with_reducible exact HS7.out) | exact QS.out.next (by (with_reducible repeat (first | exact Below.refl _ _ | apply pw_below_drewN | apply Below.drew))))
                  (first
                  | (go_at_call 15; (refine (plain_calls (.agg #[.slice A1 n1 c1]) (stk xs D xs.length) _ (SS.out.below ?ca) SL.out).mono ?_); (case ca => exact Q16.b (w0 := wr) (g := gS) (A := A1) (n := n1) (c := c1) (by assumption)); rintro e w6 ⟨v6, rfl, hr6, hb6⟩; rw [HK.out] at hr6; obtain ⟨A6, c6, e6, hc6, hC6⟩ := Kd.R_reads hr6; subst e6; have C6 := Lib.hid hC6; have HC6 := Lib.hid hc6; have HS6 := Lib.hid (Q16.next (w0 := wr) (g := gS) (A := A1) (n := n1) (c := c1) (by assumption) hb6); clear hr6 hb6 hC6 hc6)
                  | (go_at_call 17; (refine (chancelref07_Same.calls k3 A6 c6 ys A' c' ys true _ ?cb HC6.out ?cc HCC.out K3.out).mono ?_); (case cb => first | exact C6.out | exact Kd.C_below C6.out (by (with_reducible repeat (first | exact Below.refl _ _ | apply pw_below_drewN | apply Below.drew)))); (case cc => exact Kd.C_below HCUT.out (below_step BR.out (Q16.b (w0 := wr) (g := gS) (A := A1) (n := n1) (c := c1) (by assumption)))); rintro e w7 ⟨rfl, hb7⟩; have HS7 := Lib.hid (Q16.next (w0 := wr) (g := gS) (A := A1) (n := n1) (c := c1) (by assumption) (below_drawn hb7)); clear hb7))
                all_goals
                  go_wp2
                  go_ret
                  exact ⟨rfl, below_step BR.out HS7.out.2⟩
end Go.Proofs.YthkihkkmoknbjaaDoor.Undo
