/- The walk of the law RopeRuns: acts done one behind the other; each rope that comes of them is the text that it should be. Conditions: Go's two tables of utf8 as they are laid. -/
import Derived.Test.YtdbdcnpajeflkaaDoorGRope13
namespace Go.Proofs.YtdbdcnpajeflkaaDoor.Rope
open Go.RowKit Go.Proofs.YtdbdcnpajeflkaaDoorW.PrintWords Go.Proofs.YtdbdcnpajeflkaaDoorW.PrintLast Go.Proofs.YtdbdcnpajeflkaaDoorW.PrintMore Go.Proofs.YtdbdcnpajeflkaaDoor.PRopeRuns
set_option linter.unusedVariables false
set_option linter.unusedSimpArgs false
theorem St.start {w w4 : World} (hB : Below w.heap.size w w4) : St w ((w4.alloc (.cells #[.pointer none] 22)).alloc (.cells #[.string ⟨#[]⟩] 9)) (.slice (some ⟨w4.heap.size, 0, none⟩) 1 1) (.slice (some ⟨w4.heap.size + 1, 0, none⟩) 1 1) [none] [⟨#[]⟩] := by
  have h1 : ((w4.alloc (.cells #[.pointer none] 22)).alloc (.cells #[.string ⟨#[]⟩] 9)).heap[w4.heap.size]? = some (.cells #[.pointer none] 22 (0, 0)) := blk_alloc (heap_alloc_new w4 _) _
  have h2 : ((w4.alloc (.cells #[.pointer none] 22)).alloc (.cells #[.string ⟨#[]⟩] 9)).heap[w4.heap.size + 1]? = some (.cells #[.string ⟨#[]⟩] 9 (0, 0)) := by
    have e : (w4.alloc (.cells #[.pointer none] 22)).heap.size = w4.heap.size + 1 := by simp
    rw [← e]; exact heap_alloc_new _ _
  refine ⟨⟨rfl, .inr ⟨_, 1, #[.pointer none], rfl, hB.size, h1, Nat.le_refl _, by decide, rfl, rfl⟩⟩, ⟨rfl, .inr ⟨_, 1, #[.string ⟨#[]⟩], rfl, Nat.le_succ_of_le hB.size, h2, Nat.le_refl _, by decide, rfl, rfl⟩⟩, rfl, Nat.one_pos, fun j b s e1 e2 => ?_, below_alloc (below_alloc hB _) _⟩
  cases j with
  | succ j => simp at e1
  | zero =>
    simp only [List.getElem?_cons_zero, Option.some.injEq] at e1 e2
    subst e1; subst e2
    exact ⟨⟨none, [], nil_is _, rfl⟩, Nat.zero_le _⟩
def cnt : Value → Nat
  | .int _ z => z.toNat
  | _ => 0
theorem gen2 {φ P : World → Prop} {w : World} (h : P w) (k : ∀ W, P W → φ W) : φ w := k w h
theorem ref_put {s u : ByteArray} {ca cu : List (List UInt8)} (hl : Letts ca) (hs : s.data.toList = ca.flatten) (hz : s.size ≤ 4000) (hu : u.data.toList = cu.flatten) (huz : u.size ≤ 1000) (at_ : Int) :
    ∃ r, r.data.toList = (ca.take at_.toNat ++ cu ++ ca.drop at_.toNat).flatten ∧ ∀ W, Calls Tryd.prog 15 #[.string s, .int .i64 at_, .string u] W fun e w' => e = .returned (.string r) ∧ Below W.heap.size W w' := by
  obtain ⟨r, hr1, hr2⟩ := Put_ev hl hs (by omega) hu (by omega) at_
  obtain ⟨k, hk⟩ := Go.Proofs.YtdbdcnpajeflkaaDoorW.PrintWords.Ev.rounds hr1
  exact ⟨r, hr2, fun W => (chancelref01_Put.calls k s at_ u r W hk).mono fun e w' h => ⟨h.1, below_drawn h.2⟩⟩
theorem ref_cut {s : ByteArray} {ca : List (List UInt8)} (hl : Letts ca) (hs : s.data.toList = ca.flatten) (hz : s.size ≤ 4000) (a b : Int) :
    ∃ r, r.data.toList = ((ca.take b.toNat).drop a.toNat).flatten ∧ ∀ W, Calls Tryd.prog 17 #[.string s, .int .i64 a, .int .i64 b] W fun e w' => e = .returned (.string r) ∧ Below W.heap.size W w' := by
  obtain ⟨r, hr1, hr2⟩ := Cut_ev hl hs (by omega) a b
  obtain ⟨k, hk⟩ := Go.Proofs.YtdbdcnpajeflkaaDoorW.PrintWords.Ev.rounds hr1
  exact ⟨r, hr2, fun W => (chancelref01_Cut.calls k s a b r W hk).mono fun e w' h => ⟨h.1, below_drawn h.2⟩⟩
theorem ref_drop {s : ByteArray} {ca : List (List UInt8)} (hl : Letts ca) (hs : s.data.toList = ca.flatten) (hz : s.size ≤ 4000) (a b : Int) :
    ∃ r, r.data.toList = (if b.toNat ≤ a.toNat then ca else ca.take a.toNat ++ ca.drop b.toNat).flatten ∧ ∀ W, Calls Tryd.prog 19 #[.string s, .int .i64 a, .int .i64 b] W fun e w' => e = .returned (.string r) ∧ Below W.heap.size W w' := by
  obtain ⟨r, hr1, hr2⟩ := Drop_ev hl hs (by omega) a b
  obtain ⟨k, hk⟩ := Go.Proofs.YtdbdcnpajeflkaaDoorW.PrintWords.Ev.rounds hr1
  exact ⟨r, hr2, fun W => (chancelref02_Drop.calls k s a b r W hk).mono fun e w' h => ⟨h.1, below_drawn h.2⟩⟩
theorem Is.rp' {w : World} {v : Value} {t : Option T} {cs : List (List UInt8)} {s : ByteArray} (h : Is w v t cs) (hs : s.data.toList = cs.flatten) : ∃ b, v = Value.pointer b ∧ Hid (Rp w b s) := by
  obtain ⟨b, e, h⟩ := h.rp hs
  exact ⟨b, e, Lib.hid h⟩
abbrev QS (w : World) (p q : Addr) (u v : Value) (w' : World) : Prop := w'.cell? p = some u ∧ w'.cell? q = some v ∧ Below w.heap.size w w'
theorem QS.next {w W W' : World} {p q : Addr} {u v : Value} (h : QS w p q u v W) (hb : Below W.heap.size W W') : QS w p q u v W' :=
  ⟨pw_cell_below hb h.1, pw_cell_below hb h.2.1, below_then h.2.2 h.2.2.size hb⟩
set_option maxRecDepth 1000000 in
set_option maxHeartbeats 4000000 in
theorem runs_walk (A : Option Addr) (c : Nat) (xs : List Act) (w : World) (hT : Tabs w) (hr : Kd.C kA w A xs.length xs) :
    Calls Tryd.prog 7 #[.slice A xs.length c] w fun e w' => e = .returned (.bool true) ∧ Below w.heap.size w w' := by
  have HT := Lib.hid hT
  have HRA := Lib.hid hr
  clear hT hr
  go_enter Tryd.func7, Tryd.ntmps7
  go_wp2_with fail
  (go_at_call 13; refine (of_calls (⟨#[97, 98]⟩ : ByteArray) _ (by decide) HT.out (one_letts (l := [97, 98]) (by decide)) (one_flat [97, 98])).mono ?_; rintro e w1 ⟨v1, rfl, k1, hb1⟩)
  have IA := Lib.hid k1
  have B1 := Lib.hid hb1
  have H1 := Lib.hid (hb1)
  clear k1 hb1
  go_wp2_with fail
  (go_at_call 13; refine (of_calls (⟨#[120]⟩ : ByteArray) _ (by decide) (HT.out.below H1.out) (one_letts (l := [120]) (by decide)) (one_flat [120])).mono ?_; rintro e w2 ⟨v2, rfl, k2, hb2⟩)
  have IB := Lib.hid k2
  have B2 := Lib.hid hb2
  have H2 := Lib.hid (below_step H1.out hb2)
  clear k2 hb2
  go_wp2_with fail
  (go_at_call 14; refine (put_is 1 (IA.out.below B2.out) IB.out (by rw [Is.bytes (IA.out.below B2.out), Is.bytes IB.out]; decide)).mono ?_; rintro e w3 ⟨v3, rfl, k3, hb3⟩)
  have IC := Lib.hid k3
  have B3 := Lib.hid hb3
  have H3 := Lib.hid (below_step H2.out hb3)
  clear k3 hb3
  go_wp2_with fail
  (go_at_call 9; refine (text_is IC.out (⟨#[97, 120, 98]⟩ : ByteArray) (by decide)).mono ?_; rintro e w4 ⟨rfl, hb4⟩)
  have H4 := Lib.hid (below_step H3.out hb4)
  clear hb4 IA B1 H1 IB B2 H2 IC B3 H3
  go_wp2_with fail
  have HS0 := Lib.hid (St.start H4.out)
  clear H4
  go_loopw [3, 4, 21] (fun v3 v4 v21 wr => ∃ (n : Nat) (bs : List (Option Addr)) (ss : List ByteArray), v21 = .int .i64 (n : Int) ∧ St w wr v3 v4 bs ss ∧ bs.length = n + 1 ∧ n ≤ 40 ∧ n ≤ xs.length) (fun _ _ v21 _ => xs.length - cnt v21)
  case atStart => exact ⟨0, _, _, rfl, HS0.out, rfl, by omega, by omega⟩
  case round =>
    clear HS0
    obtain ⟨n, bs, ss, rfl, hst, hbl, h40, hnl⟩ := hrel
    obtain ⟨g, cR, g', cT, rfl, rfl⟩ := hst.rows
    simp only [hbl] at hst ⊢
    by_cases hlt : n < xs.length
    · have d1 : decide ((n : Int) < (xs.length : Int)) = true := by simp; omega
      obtain ⟨ad, ea, hx0, hx1, hx2, hx3⟩ := at_A HRA.out n hlt
      subst ea
      have hB := hst.below
      replace hx0 := (hB.cell (World.block_lt_of_cell? w _ hx0)).trans hx0
      replace hx1 := (hB.cell (World.block_lt_of_cell? w _ hx1)).trans hx1
      replace hx2 := (hB.cell (World.block_lt_of_cell? w _ hx2)).trans hx2
      replace hx3 := (hB.cell (World.block_lt_of_cell? w _ hx3)).trans hx3
      generalize xs.getD n zA = x at *
      have HST := Lib.hid hst
      clear hst hB
      have b1 : (0 : Int) ≤ (n : Int) := by omega
      have b2 : (n : Int) < (xs.length : Int) := by omega
      go_upto_region 7 with (first | ((with_reducible refine gate_dst (N := 6) rfl ?_); refine box_event ?hg (N := 6) ?hd (cs := #[.int .i64 0, .int .i64 0, .int .i64 0, .string ByteArray.empty]) (t := 41) ?hr ?_; (case hd => rfl); (case hg => rfl); (case hr => first | (go_simp; done) | (go_simp; rfl)); intro gA hgA wA hboxA hbA; have GA := Lib.hid hgA; have BA := Lib.hid hbA; have XA := Lib.hid hboxA; have y0 := (blk_cell hboxA 0).trans rfl; have y1 := (blk_cell hboxA 1).trans rfl; have y2 := (blk_cell hboxA 2).trans rfl; have y3 := (blk_cell hboxA 3).trans rfl; have z0 := blk_frozen hboxA 0; have z1 := blk_frozen hboxA 1; have z2 := blk_frozen hboxA 2; have z3 := blk_frozen hboxA 3; clear hgA hboxA hbA))
      refine gen2 (φ := fun W => Code.wp _ _ _ _ W) (P := fun W => St w W (.slice (some ⟨g, 0, none⟩) (n + 1) cR) (.slice (some ⟨g', 0, none⟩) (n + 1) cT) bs ss ∧ W.heap[gA]? = some (.cells #[.int .i64 x.f0, .int .i64 x.f1, .int .i64 x.f2, .string x.f3] 41 (0, 0))) ⟨HST.out.next (below_set (below_set (below_set (below_set BA.out (by rw [GA.out]; exact Nat.le_refl _)) (by rw [GA.out]; exact Nat.le_refl _)) (by rw [GA.out]; exact Nat.le_refl _)) (by rw [GA.out]; exact Nat.le_refl _)), by simpa using blk_set (blk_set (blk_set (blk_set XA.out 0 (.int .i64 x.f0)) 1 (.int .i64 x.f1)) 2 (.int .i64 x.f2)) 3 (.string x.f3)⟩ ?_
      rintro W ⟨hstW, hbxW⟩
      clear hx0 hx1 hx2 hx3 y0 y1 y2 y3 z0 z1 z2 z3 HST XA BA GA
      obtain ⟨b, s, eb, es, kb, ks, hrp, hsz⟩ := hstW.at n (by omega)
      have a0 := (blk_cell hbxW 0).trans rfl
      have a1 := (blk_cell hbxW 1).trans rfl
      have a2 := (blk_cell hbxW 2).trans rfl
      have a3 := (blk_cell hbxW 3).trans rfl
      have SW := Lib.hid hstW
      have BX := Lib.hid hbxW
      have RP := Lib.hid hrp
      have EB := Lib.hid eb
      have ES := Lib.hid es
      clear hstW hbxW hrp eb es
      by_cases c40 : n = 40
      · have d40 : ((n : Int) == 40) = true := by simp; omega
        have HST2 := SW
        have HN := Lib.hid hbl
        clear SW BX RP EB ES a0 a1 a2 a3 kb ks c40
        go_wp2
        clear d40
        go_loopw [147] (fun v147 wr => ∃ (m : Nat), v147 = .int .i64 (m : Int) ∧ m ≤ n + 1 ∧ Hid (St w wr (.slice (some ⟨g, 0, none⟩) (n + 1) cR) (.slice (some ⟨g', 0, none⟩) (n + 1) cT) bs ss)) (fun v147 _ => n + 1 - cnt v147)
        case atStart => exact ⟨0, rfl, by omega, HST2⟩
        case round =>
          clear HST2
          obtain ⟨m, rfl, hm, hst⟩ := hrel
          by_cases hmn : m < n + 1
          · have e1 : decide ((m : Int) < (n : Int) + 1) = true := by simp; omega
            obtain ⟨b, s, eb, es, kb, ks, ⟨tm, cm, hm1, hm2⟩, hsz⟩ := hst.out.at m (by omega)
            have HM1 := Lib.hid hm1
            have HM2 := Lib.hid hm2
            clear eb es hm1 hm2
            have y1 : (0 : Int) ≤ (m : Int) := by omega
            have y2 : (m : Int) < (n : Int) + 1 := by omega
            have wm : IntKind.i64.wrap ((m : Int) + 1) = (m : Int) + 1 := IntWalk.i64_in _ (by omega)
            go_wp2_with fail
            (go_at_call 11; refine (has_calls _ _ _ s _ HM1.out HM2.out).mono ?_; rintro e w7 ⟨rfl, hb7⟩)
            have B7 := Lib.hid hb7
            clear hb7
            go_wp2
            go_roundw
            case rel => exact ⟨m + 1, by go_num, by omega, Lib.hid (hst.out.next B7.out)⟩
            case measure =>
              simp only [cnt]
              omega
          · have e1 : decide ((m : Int) < (n : Int) + 1) = false := by simp; omega
            go_wp2
            go_ret
            exact ⟨rfl, hst.out.below⟩
      · have d40 : ((n : Int) == 40) = false := by simp; omega
        have w1 : IntKind.i64.wrap ((n : Int) + 1 - 1) = (n : Int) := by rw [IntWalk.i64_in _ (by omega)]; omega
        go_upto_region 8 with (fail)
        go_quiet (fail)
        dsimp only [Exit.then]
        apply_assumption
        refine wp_seq_k ?_
        intro KK hKK
        refine gen2 (φ := fun V => Code.wp _ _ _ _ V) (P := fun V => Below W.heap.size W V) (by repeat (first | exact Below.refl _ _ | apply pw_below_drewN | apply Below.drew)) ?_
        intro V hV
        replace a0 := pw_cell_below hV a0
        replace a1 := pw_cell_below hV a1
        replace a2 := pw_cell_below hV a2
        replace a3 := pw_cell_below hV a3
        replace kb := pw_cell_below hV kb
        replace ks := pw_cell_below hV ks
        have SV := Lib.hid (SW.out.next hV)
        have RV := Lib.hid (RP.out.below hV)
        clear SW RP BX hV
        go_cut [7, 8] (fun v7 v8 wc => ∃ b' s', v7 = Value.pointer b' ∧ v8 = .string s' ∧ Hid (Rp wc b' s') ∧ Hid (St w wc (.slice (some ⟨g, 0, none⟩) (n + 1) cR) (.slice (some ⟨g', 0, none⟩) (n + 1) cT) bs ss))
        case first =>
          clear hKK
          obtain ⟨ta, ca, hIs, hes⟩ := RV.out
          have hbz : bytesO ta ≤ 4000 := by rw [hIs.bytes, ← hes, toList_size]; exact hsz
          have HES := Lib.hid hes
          have HIS := Lib.hid hIs
          clear hes hIs RV
          by_cases hput : x.f0 = 0 ∧ x.f3.size ≤ 1000 ∧ Lib.validD x.f3.data.toList = true
          · obtain ⟨e0, e3, ev⟩ := hput
            have d0 : (x.f0 == 0) = true := by simp [e0]
            have d3 : decide ((x.f3.size : Int) ≤ 1000) = true := by simp; omega
            have cR : ∀ W, Calls Tryd.prog 10 #[.string x.f3] W fun e w' => e = .returned (.bool true) ∧ Below W.heap.size W w' := fun W => by have := refRight_calls x.f3 W (by omega); rw [ev] at this; exact this
            have CR := Lib.hid cR
            obtain ⟨cu, hlu, heu⟩ := (validD_iff _).1 ev
            have HLU := Lib.hid hlu
            have HEU := Lib.hid heu
            have huz : bytesO (newO x.f3) = x.f3.size := by rw [(newO_good hlu heu).bytes, ← heu, toList_size]
            obtain ⟨r, hr, hcr⟩ := ref_put HIS.out.g.letts HES.out hsz heu e3 x.f1
            have HR := Lib.hid hr
            have HCR := Lib.hid hcr
            clear cR ev hlu heu hr hcr
            go_wp2_with fail
            (go_at_call 10; refine (CR.out _).mono ?_; rintro e wB ⟨rfl, hbB⟩)
            have BB := Lib.hid hbB
            replace a1 := pw_cell_below hbB a1
            replace a3 := pw_cell_below hbB a3
            clear hbB
            go_upto_region 10 with (fail)
            have QS0 := Lib.hid (show QS wB ⟨gA, 1, none⟩ ⟨gA, 3, none⟩ (.int .i64 x.f1) (.string x.f3) wB from ⟨a1, a3, Below.refl _ _⟩)
            clear a0 a1 a2 a3 kb ks
            go_region_held3 (fun w' => QS wB ⟨gA, 1, none⟩ ⟨gA, 3, none⟩ (.int .i64 x.f1) (.string x.f3) w')
              (first | assumption | exact HS13.out | exact HS14.out | exact QS0.out.next (by repeat (first | exact Below.refl _ _ | apply pw_below_drewN | apply Below.drew)) | exact HS13.out.next (by repeat (first | exact Below.refl _ _ | apply pw_below_drewN | apply Below.drew)))
              (first
                | (go_at_call 13; (refine (of_calls x.f3 _ (by omega) (HT.out.below (below_step (below_step SV.out.below BB.out) (‹_ ∧ _ ∧ Below wB.heap.size wB _›).2.2)) HLU.out HEU.out).mono ?_); rintro e w7 ⟨v7, rfl, k7, hb7⟩; have HS13 := Lib.hid (QS.next (w := wB) (p := ⟨gA, 1, none⟩) (q := ⟨gA, 3, none⟩) (u := .int .i64 x.f1) (v := .string x.f3) (by assumption) hb7); have K7 := Lib.hid k7; clear hb7 k7)
                | (go_at_call 14; (refine (put_is x.f1 (HIS.out.below (below_step BB.out HS13.out.2.2)) K7.out (by omega)).mono ?_); rintro e w8 ⟨v8, rfl, k8, hb8⟩; have HS14 := Lib.hid (QS.next (w := wB) (p := ⟨gA, 1, none⟩) (q := ⟨gA, 3, none⟩) (u := .int .i64 x.f1) (v := .string x.f3) (by assumption) hb8); have K8 := Lib.hid k8; clear hb8 k8))
            all_goals
              obtain ⟨b8, rfl, R8⟩ := K8.out.rp' HR.out
              have a1 := HS14.out.1
              have a3 := HS14.out.2.1
              clear K7 K8 HIS HES
              go_wp2_with fail
              (go_at_call 15; refine (HCR.out _).mono ?_; rintro e w9 ⟨rfl, hb9⟩)
              have B9 := Lib.hid hb9
              clear hb9 a1 a3
              go_wp2
              go_meet
              case rel => exact ⟨_, _, rfl, rfl, Lib.hid (R8.out.below B9.out), Lib.hid (SV.out.next (below_step (below_step BB.out HS14.out.2.2) B9.out))⟩
          · have RVB : Rp V b s := ⟨ta, ca, HIS.out, HES.out⟩
            by_cases e0 : x.f0 = 0
            · have d0 : (x.f0 == 0) = true := by simp; omega
              have d1 : (x.f0 == 1) = false := by simp; omega
              have d2 : (x.f0 == 2) = false := by simp; omega
              have d3 : (x.f0 == 3) = false := by simp; omega
              have d4 : (x.f0 == 4) = false := by simp; omega
              by_cases e3 : x.f3.size ≤ 1000
              · have ev : Lib.validD x.f3.data.toList = false := by cases h : Lib.validD x.f3.data.toList with
                  | false => rfl
                  | true => exact absurd ⟨e0, e3, h⟩ hput
                have q3 : decide ((x.f3.size : Int) ≤ 1000) = true := by simp; omega
                have cR : ∀ W, Calls Tryd.prog 10 #[.string x.f3] W fun e w' => e = .returned (.bool false) ∧ Below W.heap.size W w' := fun W => by have := refRight_calls x.f3 W (by omega); rw [ev] at this; exact this
                have CR := Lib.hid cR
                have RVH := Lib.hid RVB
                clear cR ev hput e0 RVB
                go_wp2_with fail
                (go_at_call 10; refine (CR.out _).mono ?_; rintro e wB ⟨rfl, hbB⟩)
                have BB := Lib.hid hbB
                replace a0 := pw_cell_below hbB a0
                clear hbB
                go_wp2
                go_meet
                case rel => exact ⟨_, _, rfl, rfl, Lib.hid (RVH.out.below BB.out), Lib.hid (SV.out.next BB.out)⟩
              · have q3 : decide ((x.f3.size : Int) ≤ 1000) = false := by simp; omega
                have RVH := Lib.hid RVB
                clear hput e0 RVB
                go_wp2
                go_meet
                case rel => exact ⟨_, _, rfl, rfl, RVH, SV⟩
            · have RVH := Lib.hid RVB
              clear RVB
              by_cases e1 : x.f0 = 1
              · have d0 : (x.f0 == 0) = false := by simp; omega
                have d1 : (x.f0 == 1) = true := by simp; omega
                clear hput
                obtain ⟨r, hr, hcr⟩ := ref_drop HIS.out.g.letts HES.out hsz x.f1 x.f2
                have HR := Lib.hid hr
                have HCR := Lib.hid hcr
                clear hr hcr e1
                go_wp2_with fail
                (go_at_call 18; refine (drop_is x.f1 x.f2 HIS.out (by omega)).mono ?_; rintro e w7 ⟨v7, rfl, k7, hb7⟩)
                obtain ⟨b7, rfl, R7⟩ := k7.rp' HR.out
                have B7 := Lib.hid hb7
                replace a1 := pw_cell_below hb7 a1
                replace a2 := pw_cell_below hb7 a2
                clear k7 hb7 HIS HES
                go_wp2_with fail
                (go_at_call 19; refine (HCR.out _).mono ?_; rintro e w9 ⟨rfl, hb9⟩)
                have B9 := Lib.hid hb9
                clear hb9
                go_wp2
                go_meet
                case rel => exact ⟨_, _, rfl, rfl, Lib.hid (R7.out.below B9.out), Lib.hid (SV.out.next (below_step B7.out B9.out))⟩
              by_cases e2 : x.f0 = 2
              · have d0 : (x.f0 == 0) = false := by simp; omega
                have d1 : (x.f0 == 1) = false := by simp; omega
                have d2 : (x.f0 == 2) = true := by simp; omega
                clear hput
                obtain ⟨r, hr, hcr⟩ := ref_cut HIS.out.g.letts HES.out hsz x.f1 x.f2
                have HR := Lib.hid hr
                have HCR := Lib.hid hcr
                clear hr hcr e2
                go_wp2_with fail
                (go_at_call 16; refine (cut_is x.f1 x.f2 HIS.out).mono ?_; rintro e w7 ⟨v7, rfl, k7, hb7⟩)
                obtain ⟨b7, rfl, R7⟩ := k7.rp' HR.out
                have B7 := Lib.hid hb7
                replace a1 := pw_cell_below hb7 a1
                replace a2 := pw_cell_below hb7 a2
                clear k7 hb7 HIS HES
                go_wp2_with fail
                (go_at_call 17; refine (HCR.out _).mono ?_; rintro e w9 ⟨rfl, hb9⟩)
                have B9 := Lib.hid hb9
                clear hb9
                go_wp2
                go_meet
                case rel => exact ⟨_, _, rfl, rfl, Lib.hid (R7.out.below B9.out), Lib.hid (SV.out.next (below_step B7.out B9.out))⟩
              by_cases e3 : x.f0 = 3
              · have d0 : (x.f0 == 0) = false := by simp; omega
                have d1 : (x.f0 == 1) = false := by simp; omega
                have d2 : (x.f0 == 2) = false := by simp; omega
                have d3 : (x.f0 == 3) = true := by simp; omega
                have hst : ¬ (9223372036854775807 < s.size + s.size) := by omega
                have hcat : (s ++ s).data.toList = (ca ++ ca).flatten := by rw [List.flatten_append, ← HES.out]; simp [ByteArray.data_append]
                have HCAT := Lib.hid hcat
                clear hput e3 hcat
                go_wp2_with fail
                (go_at_call 12; refine (join_is HIS.out HIS.out (by omega)).mono ?_; rintro e w7 ⟨v7, rfl, k7, hb7⟩)
                obtain ⟨b7, rfl, R7⟩ := k7.rp' HCAT.out
                have B7 := Lib.hid hb7
                clear k7 hb7 HIS HES
                go_wp2
                go_meet
                case rel => exact ⟨_, _, rfl, rfl, R7, Lib.hid (SV.out.next B7.out)⟩
              by_cases e4 : x.f0 = 4
              · have d0 : (x.f0 == 0) = false := by simp; omega
                have d1 : (x.f0 == 1) = false := by simp; omega
                have d2 : (x.f0 == 2) = false := by simp; omega
                have d3 : (x.f0 == 3) = false := by simp; omega
                have d4 : (x.f0 == 4) = true := by simp; omega
                clear hput e4
                obtain ⟨t, ht, t1, t2⟩ : ∃ t : Int, x.f1.tmod ((n : Int) + 1) = t ∧ -((n : Int) + 1) < t ∧ t < (n : Int) + 1 := ⟨_, rfl, by have := Int.lt_tmod_of_pos x.f1 (show (0 : Int) < (n : Int) + 1 by omega); omega, Int.tmod_lt_of_pos _ (by omega)⟩
                obtain ⟨k, hk, hkl⟩ : ∃ k : Nat, (t + ((n : Int) + 1)).tmod ((n : Int) + 1) = (k : Int) ∧ k < n + 1 := by
                  have h0 : 0 ≤ (t + ((n : Int) + 1)).tmod ((n : Int) + 1) := Int.tmod_nonneg _ (by omega)
                  have h1 := Int.tmod_lt_of_pos (t + ((n : Int) + 1)) (show (0 : Int) < (n : Int) + 1 by omega)
                  exact ⟨((t + ((n : Int) + 1)).tmod ((n : Int) + 1)).toNat, by omega, by omega⟩
                have hne : ¬ ((n : Int) + 1 = 0) := by omega
                have wt : IntKind.i64.wrap t = t := IntWalk.i64_in _ (by omega)
                have wtt : IntKind.i64.wrap (t + ((n : Int) + 1)) = t + ((n : Int) + 1) := IntWalk.i64_in _ (by omega)
                have wk : IntKind.i64.wrap (k : Int) = (k : Int) := IntWalk.i64_in _ (by omega)
                have y1 : (0 : Int) ≤ (k : Int) := by omega
                have y2 : (k : Int) < (n : Int) + 1 := by omega
                obtain ⟨b', s', eb', es', kb', ks', hrp', hsz'⟩ := SV.out.at k (by omega)
                have RP' := Lib.hid hrp'
                clear eb' es' hrp' t1 t2
                go_wp2
                go_meet
                case rel => exact ⟨b', s', rfl, rfl, RP', SV⟩
              · have d0 : (x.f0 == 0) = false := by simp; omega
                have d1 : (x.f0 == 1) = false := by simp; omega
                have d2 : (x.f0 == 2) = false := by simp; omega
                have d3 : (x.f0 == 3) = false := by simp; omega
                have d4 : (x.f0 == 4) = false := by simp; omega
                clear hput e0 e1 e2 e3 e4
                go_wp2
                go_meet
                case rel => exact ⟨_, _, rfl, rfl, RVH, SV⟩
        case rest =>
          obtain ⟨b', s', rfl, rfl, RP', SP'⟩ := hcut
          apply hKK
          clear hKK SV RV a0 a1 a2 a3 kb ks
          by_cases e4 : s'.size ≤ 4000
          · have d4 : decide ((4000 : Int) < (s'.size : Int)) = false := by simp; omega
            have hl := SP'.out.len
            have wn : IntKind.i64.wrap ((n : Int) + 1) = (n : Int) + 1 := IntWalk.i64_in _ (by omega)
            go_upto_region 28 with (first | ((with_reducible refine gate_builtin (b := .append) rfl ?_); refine print_append_of (w0 := w) Value.pointer w.heap.size rfl _ _ 38 22 (.pointer none) 8 rfl Tryd.underlying38 info_ptr rfl (by decide) (.slice (some ⟨g, 0, none⟩) (n + 1) cR) bs b' rfl rfl rfl ?h1 ?h2 ?h3 ?h4 ?_; (case h1 => exact SP'.out.ropes); (case h2 => exact SP'.out.below); (case h3 => exact SP'.out.below.size); (case h4 => omega); intro vR' wR ho3 hb3 hg3 hat3; have HOR := Lib.hid ho3; have HBR := Lib.hid hb3; have HGR := Lib.hid hg3; clear ho3 hb3 hg3 hat3))
            have T1 := Lib.hid (SP'.out.texts.move (SP'.out.ropes.grown HGR.out (by decide)))
            go_wp2_with (first | ((with_reducible refine gate_builtin (b := .append) rfl ?_); refine print_append_of (w0 := w) Value.string w.heap.size rfl _ _ 39 9 (.string ByteArray.empty) 16 rfl Tryd.underlying39 info_str rfl (by decide) (.slice (some ⟨g', 0, none⟩) (n + 1) cT) ss s' rfl rfl rfl ?h1 ?h2 ?h3 ?h4 ?_; (case h1 => exact T1.out); (case h2 => exact HBR.out); (case h3 => exact HBR.out.size); (case h4 => omega); intro vT' wT ho3 hb3 hg3 hat3; have HOT := Lib.hid ho3; have HBT := Lib.hid hb3; have HGT := Lib.hid hg3; clear ho3 hb3 hg3 hat3))
            go_roundw
            case rel => exact ⟨n + 1, bs ++ [b'], ss ++ [s'], by go_num, SP'.out.more RP'.out e4 HOR.out HGR.out HOT.out HGT.out HBT.out, by simp; omega, by omega, by omega⟩
            case measure =>
              simp only [cnt]
              omega
          · have d4 : decide ((4000 : Int) < (s'.size : Int)) = true := by simp; omega
            go_wp2
            go_ret
            exact ⟨rfl, SP'.out.below⟩
    · have d1 : decide ((n : Int) < (xs.length : Int)) = false := by simp; omega
      have HST2 := Lib.hid hst
      clear hst
      go_wp2
      go_loopw [147] (fun v147 wr => ∃ (m : Nat), v147 = .int .i64 (m : Int) ∧ m ≤ n + 1 ∧ Hid (St w wr (.slice (some ⟨g, 0, none⟩) (n + 1) cR) (.slice (some ⟨g', 0, none⟩) (n + 1) cT) bs ss)) (fun v147 _ => n + 1 - cnt v147)
      case atStart => exact ⟨0, rfl, by omega, HST2⟩
      case round =>
        clear HST2
        obtain ⟨m, rfl, hm, hst⟩ := hrel
        by_cases hmn : m < n + 1
        · have e1 : decide ((m : Int) < (n : Int) + 1) = true := by simp; omega
          obtain ⟨b, s, eb, es, kb, ks, ⟨tm, cm, hm1, hm2⟩, hsz⟩ := hst.out.at m (by omega)
          have HM1 := Lib.hid hm1
          have HM2 := Lib.hid hm2
          clear eb es hm1 hm2
          have y1 : (0 : Int) ≤ (m : Int) := by omega
          have y2 : (m : Int) < (n : Int) + 1 := by omega
          have wm : IntKind.i64.wrap ((m : Int) + 1) = (m : Int) + 1 := IntWalk.i64_in _ (by omega)
          go_wp2_with fail
          (go_at_call 11; refine (has_calls _ _ _ s _ HM1.out HM2.out).mono ?_; rintro e w7 ⟨rfl, hb7⟩)
          have B7 := Lib.hid hb7
          clear hb7
          go_wp2
          go_roundw
          case rel => exact ⟨m + 1, by go_num, by omega, Lib.hid (hst.out.next B7.out)⟩
          case measure =>
            simp only [cnt]
            omega
        · have e1 : decide ((m : Int) < (n : Int) + 1) = false := by simp; omega
          go_wp2
          go_ret
          exact ⟨rfl, hst.out.below⟩
end Go.Proofs.YtdbdcnpajeflkaaDoor.Rope
