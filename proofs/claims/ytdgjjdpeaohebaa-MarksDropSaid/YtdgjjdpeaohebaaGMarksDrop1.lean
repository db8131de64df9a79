/- The contract of marks.Drop: the spans and the sites of other marks alone. Conditions: sizes below 2^47 bytes. -/
import Derived.Test.YtdgjjdpeaohebaaGMarksDrop0
import Derived.Deep.RegionHeld3
import Derived.Shelf.Abstract
import Derived.Deep.DeepCutAuto
namespace Go.Proofs.Ytdgjjdpeaohebaa.PMarksDrop
open Go.RowKit Go.Proofs.YtdgjjdpeaohebaaOwn Go.Proofs.YtdgjjdpeaohebaaW.PrintWords Go.Proofs.YtdgjjdpeaohebaaW.PrintLast Go.Proofs.YtdgjjdpeaohebaaW.PrintMore
set_option linter.unusedVariables false
set_option linter.unusedSimpArgs false
def MDrop (w : World) (xs : List S26) (ys : List S38) (e : Ending) (w' : World) : Prop :=
  ∃ v0_ v1_ : Value, e = .returned (.agg #[v0_, v1_]) ∧ Kd.R k26 26 w' w.heap.size (fun _ => True) v0_ xs ∧ Kd.R k38 38 w' w.heap.size (fun _ => True) v1_ ys ∧ Below w.heap.size w w'
set_option maxHeartbeats 800000 in
set_option maxRecDepth 100000 in
theorem pred28 (b : Nat) (mark : Int) (W : World) (x : S26) (hc : W.cell? ⟨b, 0, none⟩ = some (.int .i64 mark)) :
    Calls Try.prog 28 (#[.agg #[.int .i64 x.f0, .int .i64 x.f1, .int .i64 x.f2]] ++ #[.pointer (some ⟨b, 0, none⟩)]) W fun e w' => e = .returned (.bool (x.f0 == mark)) ∧ Below W.heap.size W w' := by
  have hc' : (W.alloc (.cells #[.int .i64 x.f0, .int .i64 x.f1, .int .i64 x.f2] 26)).cell? ⟨b, 0, none⟩ = some (.int .i64 mark) := ((below_alloc (Below.refl _ _) _).cell (World.block_lt_of_cell? W _ hc)).trans hc
  show Calls Try.prog 28 #[.agg #[.int .i64 x.f0, .int .i64 x.f1, .int .i64 x.f2], .pointer (some ⟨b, 0, none⟩)] W _
  go_enter Try.func28, Try.ntmps28
  go_wp2_with ((with_reducible refine gate_dst (N := 2) rfl ?_); refine box_event ?hg (N := 2) ?hd (cs := #[.int .i64 x.f0, .int .i64 x.f1, .int .i64 x.f2]) (t := 26) ?hr ?_; (case hd => rfl); (case hg => rfl); (case hr => first | (go_simp; done) | (go_simp; rfl)); intro gb hg w1 hbox hb
               have h0 := (blk_cell hbox 0).trans rfl; have h1 : w1.cell? ⟨b, 0, none⟩ = some (.int .i64 mark) := (hb.cell (World.block_lt_of_cell? W _ hc)).trans hc; have HB := Lib.hid hb; clear hg hbox hb)
  go_ret
  exact ⟨rfl, HB.out⟩
set_option maxHeartbeats 800000 in
set_option maxRecDepth 100000 in
theorem pred31 (b : Nat) (mark : Int) (W : World) (x : S38) (hc : W.cell? ⟨b, 0, none⟩ = some (.int .i64 mark)) :
    Calls Try.prog 31 (#[.agg #[.int .i64 x.f0, .int .i64 x.f1]] ++ #[.pointer (some ⟨b, 0, none⟩)]) W fun e w' => e = .returned (.bool (x.f0 == mark)) ∧ Below W.heap.size W w' := by
  show Calls Try.prog 31 #[.agg #[.int .i64 x.f0, .int .i64 x.f1], .pointer (some ⟨b, 0, none⟩)] W _
  go_enter Try.func31, Try.ntmps31
  go_wp2_with ((with_reducible refine gate_dst (N := 2) rfl ?_); refine box_event ?hg (N := 2) ?hd (cs := #[.int .i64 x.f0, .int .i64 x.f1]) (t := 38) ?hr ?_; (case hd => rfl); (case hg => rfl); (case hr => first | (go_simp; done) | (go_simp; rfl)); intro gb hg w1 hbox hb
               have h0 := (blk_cell hbox 0).trans rfl; have h1 : w1.cell? ⟨b, 0, none⟩ = some (.int .i64 mark) := (hb.cell (World.block_lt_of_cell? W _ hc)).trans hc; have HB := Lib.hid hb; clear hg hbox hb)
  go_ret
  exact ⟨rfl, HB.out⟩
theorem row_keeps {W W' : World} {b B : Nat} {u v : Value} (hI : W.cell? ⟨b, 0, none⟩ = some u) (hg : W.grownBy W' v.ownBlock) (hb : ∀ k, v.ownBlock = some k → B ≤ k) (hlt : b < B) : W'.cell? ⟨b, 0, none⟩ = some u := by
  have hB := World.block_lt_of_cell? W _ hI
  have h := hg.block b hB (fun e => by have := hb b e.symm; omega)
  rw [← hI]
  simp [World.cell?, h]
/-- What holds all along the drawn region: the boxes' cells, what lies below, the result's block. -/
abbrev RS (w3 : World) (a b c : Addr) (u v x : Value) (g4 : Nat) (w' : World) : Prop := w'.cell? a = some u ∧ w'.cell? b = some v ∧ w'.cell? c = some x ∧ Below w3.heap.size w3 w' ∧ Aside0 (∃ u0 u1, w'.heap[g4]? = some (.cells #[u0, u1] 28 (0, 0)))
theorem RS.next {w3 W W' : World} {a b c : Addr} {u v x : Value} {g4 : Nat} (h : RS w3 a b c u v x g4 W) (hb : Below W.heap.size W W') : RS w3 a b c u v x g4 W' :=
  ⟨pw_cell_below hb h.1, pw_cell_below hb h.2.1, pw_cell_below hb h.2.2.1, below_then h.2.2.2.1 h.2.2.2.1.size hb, ⟨by
    obtain ⟨u0, u1, h5⟩ := h.2.2.2.2.out
    exact ⟨u0, u1, (hb.block g4 (blk_lt h5)).trans h5⟩⟩⟩
theorem RS.grown {w3 W W' : World} {a b c : Addr} {u v x : Value} {g4 : Nat} {row : Option Nat} (h : RS w3 a b c u v x g4 W) (hg : W.grownBy W' row) (hr : ∀ k, row = some k → w3.heap.size ≤ k) (h4 : some g4 ≠ row)
    (ha : a.block < w3.heap.size) (hb : b.block < w3.heap.size) (hc : c.block < w3.heap.size) : RS w3 a b c u v x g4 W' := by
  have hB := h.2.2.2.1.grown hg h.2.2.2.1.size hr
  have key : ∀ {p : Addr} {z : Value}, p.block < w3.heap.size → W.cell? p = some z → W'.cell? p = some z := fun hp hz => by
    rw [← hz, hB.cell hp, ← h.2.2.2.1.cell hp]
  refine ⟨key ha h.1, key hb h.2.1, key hc h.2.2.1, hB, ⟨?_⟩⟩
  obtain ⟨u0, u1, h5⟩ := h.2.2.2.2.out
  exact ⟨u0, u1, (hg.block g4 (blk_lt h5) h4).trans h5⟩
theorem RS.set {w3 W : World} {a b c : Addr} {u v x : Value} {g4 : Nat} (h : RS w3 a b c u v x g4 W) (y0 y1 : Value) (h4 : w3.heap.size ≤ g4) (ha : a.block < w3.heap.size) (hb : b.block < w3.heap.size) (hc : c.block < w3.heap.size) :
    RS w3 a b c u v x g4 ((W.setCell ⟨g4, 0, none⟩ y0).setCell ⟨g4, 1, none⟩ y1) := by
  have hB := below_set (below_set h.2.2.2.1 h4 (j := 0) (v := y0)) h4 (j := 1) (v := y1)
  have key : ∀ {p : Addr} {z : Value}, p.block < w3.heap.size → W.cell? p = some z → ((W.setCell ⟨g4, 0, none⟩ y0).setCell ⟨g4, 1, none⟩ y1).cell? p = some z := fun hp hz => by
    rw [← hz, hB.cell hp, ← h.2.2.2.1.cell hp]
  refine ⟨key ha h.1, key hb h.2.1, key hc h.2.2.1, hB, ⟨?_⟩⟩
  obtain ⟨u0, u1, h5⟩ := h.2.2.2.2.out
  exact ⟨y0, y1, by simpa using blk_set (blk_set h5 0 y0) 1 y1⟩
set_option maxHeartbeats 1600000 in
set_option maxRecDepth 100000 in
theorem drop14 (w : World) (A0 A1 : Option Addr) (c0 c1 : Nat) (xs : List S26) (ys : List S38) (mark : Int) (hr0 : Kd.C k26 w A0 xs.length xs) (hc0 : xs.length ≤ c0) (hr1 : Kd.C k38 w A1 ys.length ys) (hc1 : ys.length ≤ c1) (hl0 : xs.length * 24 ≤ 140737488355328) (hl1 : ys.length * 16 ≤ 140737488355328) :
    Calls Try.prog 14 #[.agg #[.slice A0 xs.length c0, .slice A1 ys.length c1], .int .i64 mark] w (MDrop w (xs.filter fun x => !(x.f0 == mark)) (ys.filter fun x => !(x.f0 == mark))) := by
  have HR0 := Lib.hid hr0; have HC0 := Lib.hid hc0; have HR1 := Lib.hid hr1; have HC1 := Lib.hid hc1; have HL0 := Lib.hid hl0; have HL1 := Lib.hid hl1
  clear hr0 hc0 hr1 hc1 hl0 hl1
  go_enter Try.func14, Try.ntmps14
  go_wp2_with (first
    | ((with_reducible refine gate_dst (N := 2) rfl ?_); refine box_event ?hg (N := 2) ?hd (cs := #[.slice A0 xs.length c0, .slice A1 ys.length c1]) (t := 28) ?hr ?_; (case hd => rfl); (case hg => rfl); (case hr => first | (go_simp; done) | (go_simp; rfl)); intro g2 hg2 w2 hb2 HB2
       have HG2 := Lib.hid hg2; have HB2' := Lib.hid HB2; have HX2 := Lib.hid hb2; clear hg2 HB2 hb2)
    | ((with_reducible refine gate_dst (N := 3) rfl ?_); refine box_event ?hg (N := 3) ?hd (cs := #[.int .i64 mark]) (t := 3) ?hr ?_; (case hd => rfl); (case hg => rfl); (case hr => first | (go_simp; done) | (go_simp; rfl)); intro g3 hg3 w3 hb3 HB3
       have HG3 := Lib.hid hg3; have HB3' := Lib.hid HB3; have HX3 := Lib.hid hb3; clear hg3 HB3 hb3)
    | ((with_reducible refine gate_dst (N := 4) rfl ?_); refine box_event ?hg (N := 4) ?hd (cs := #[.slice none 0 0, .slice none 0 0]) (t := 28) ?hr ?_; (case hd => rfl); (case hg => rfl); (case hr => first | (go_simp; done) | (go_simp; rfl)); intro g4 hg4 w4 hb4 HB4
       have HG4 := Lib.hid hg4; have HB4' := Lib.hid HB4; have HX4 := Lib.hid hb4; clear hg4 HB4 hb4)
    | fail)
  have QW : Hid (Below w.heap.size w w3) := Lib.hid (below_then HB2'.out HB2'.out.size HB3'.out)
  have q0 : w3.cell? ⟨g2, 0, none⟩ = some (.slice A0 xs.length c0) := pw_cell_below HB3'.out ((blk_cell HX2.out 0).trans rfl)
  have q1 : w3.cell? ⟨g2, 1, none⟩ = some (.slice A1 ys.length c1) := pw_cell_below HB3'.out ((blk_cell HX2.out 1).trans rfl)
  have q3 : w3.cell? ⟨g3, 0, none⟩ = some (.int .i64 mark) := (blk_cell HX3.out 0).trans rfl
  have HL2 := Lib.hid (World.block_lt_of_cell? w3 _ q0); have HL3 := Lib.hid (World.block_lt_of_cell? w3 _ q3)
  have QS := Lib.hid (show RS w3 ⟨g2, 0, none⟩ ⟨g2, 1, none⟩ ⟨g3, 0, none⟩ (.slice A0 xs.length c0) (.slice A1 ys.length c1) (.int .i64 mark) g4 w4 from
    ⟨pw_cell_below HB4'.out q0, pw_cell_below HB4'.out q1, pw_cell_below HB4'.out q3, HB4'.out, ⟨⟨_, _, HX4.out⟩⟩⟩)
  have L3 := Lib.hid (show g3 < w4.drew.heap.size from Nat.lt_of_lt_of_le HL3.out HB4'.out.size); have L4 := Lib.hid (show g4 < w4.drew.heap.size from blk_lt HX4.out); have L0 := Lib.hid (show w3.heap.size ≤ w4.drew.heap.size from HB4'.out.size)
  clear q0 q1 q3
  simp only [Act.put, List.setIfInBounds_toArray, List.set_cons_zero, List.set_cons_succ]
  go_region_held3 (fun w' => RS w3 ⟨g2, 0, none⟩ ⟨g2, 1, none⟩ ⟨g3, 0, none⟩ (.slice A0 xs.length c0) (.slice A1 ys.length c1) (.int .i64 mark) g4 w')
    (first | exact QS.out | exact QS.out.next (below_drew1 (Below.refl _ _)) | assumption | exact HS7.out | exact HS9.out | exact HS12.out | exact HS14.out | exact RS.set HS14.out _ _ (Nat.le_of_eq HG4.out.symm) HL2.out HL2.out HL3.out)
    (first
      | (go_at_call 27; (with_reducible refine (clone26 A0 c0 xs _ ?hr HC0.out HL0.out).mono ?_)
         (case hr => exact Kd.C_below HR0.out (below_then QW.out QW.out.size (‹_ ∧ _ ∧ _ ∧ Below w3.heap.size w3 _ ∧ _›).2.2.2.1))
         rintro e w7 ⟨v7, rfl, hr7, hb7⟩; have HS7 := Lib.hid (RS.next ‹_ ∧ _ ∧ _ ∧ Below w3.heap.size w3 _ ∧ _› hb7); have HR7 := Lib.hid hr7; clear hb7 hr7)
      | (go_at_call 26; (refine (delete26 v7 xs 28 #[.pointer (some ⟨g3, 0, none⟩)] (fun x => x.f0 == mark) (fun W => W.cell? ⟨g3, 0, none⟩ = some (.int .i64 mark)) _ (fun _ => True) _ (Go.Proofs.enters_of Try.func28 (by kernel_rfl) rfl) (fun W x hI => pred28 g3 mark W x hI) ?hI ?hIb HR7.out).mono ?_)
         (case hI => exact (‹_ ∧ _ ∧ _ ∧ Below w3.heap.size w3 _ ∧ _›).2.2.1)
         (case hIb => exact fun W W' hI hg => row_keeps hI hg (Kd.R_base HR7.out) L3.out)
         rintro e w9 ⟨v9, rfl, hr9, hg9⟩
         have HS9 := Lib.hid (RS.grown ‹_ ∧ _ ∧ _ ∧ Below w3.heap.size w3 _ ∧ _› hg9 (fun k hk => Nat.le_trans L0.out (Kd.R_base HR7.out k hk)) (fun e => absurd (Kd.R_base HR7.out g4 e.symm) (Nat.not_le.2 L4.out)) HL2.out HL2.out HL3.out)
         obtain ⟨A9, c9, rfl⟩ := Kd.R_slice hr9
         have HR9 := Lib.hid hr9; clear hr9 hg9)
      | (go_at_call 30; (with_reducible refine (clone38 A1 c1 ys _ ?hr HC1.out HL1.out).mono ?_)
         (case hr => exact Kd.C_below HR1.out (below_then QW.out QW.out.size (‹_ ∧ _ ∧ _ ∧ Below w3.heap.size w3 _ ∧ _›).2.2.2.1))
         rintro e w12 ⟨v12, rfl, hr12, hb12⟩; have HS12 := Lib.hid (RS.next ‹_ ∧ _ ∧ _ ∧ Below w3.heap.size w3 _ ∧ _› hb12); have HR12 := Lib.hid hr12; have HB12 := Lib.hid hb12; clear hb12 hr12)
      | (go_at_call 29; (refine (delete38 v12 ys 31 #[.pointer (some ⟨g3, 0, none⟩)] (fun x => x.f0 == mark) (fun W => W.cell? ⟨g3, 0, none⟩ = some (.int .i64 mark)) _ (fun _ => True) _ (Go.Proofs.enters_of Try.func31 (by kernel_rfl) rfl) (fun W x hI => pred31 g3 mark W x hI) ?hI ?hIb HR12.out).mono ?_)
         (case hI => exact (‹_ ∧ _ ∧ _ ∧ Below w3.heap.size w3 _ ∧ _›).2.2.1)
         (case hIb => exact fun W W' hI hg => row_keeps hI hg (Kd.R_base HR12.out) (Nat.lt_of_lt_of_le HL3.out HS9.out.2.2.2.1.size))
         rintro e w14 ⟨v14, rfl, hr14, hg14⟩
         have HS14 := Lib.hid (RS.grown ‹_ ∧ _ ∧ _ ∧ Below w3.heap.size w3 _ ∧ _› hg14 (fun k hk => Nat.le_trans HS9.out.2.2.2.1.size (Kd.R_base HR12.out k hk)) (fun e => absurd (Kd.R_base HR12.out g4 e.symm) (Nat.not_le.2 (blk_lt HS9.out.2.2.2.2.out.choose_spec.choose_spec))) HL2.out HL2.out HL3.out)
         obtain ⟨A14, c14, rfl⟩ := Kd.R_slice hr14
         have HR14 := Lib.hid hr14; have HG14 := Lib.hid hg14; clear hr14 hg14
         obtain ⟨u0, u1, hblk⟩ := HS14.out.2.2.2.2.out
         have y0 := blk_cell hblk 0; have y1 := blk_cell hblk 1; have z0 := blk_frozen hblk 0; have z1 := blk_frozen hblk 1
         have HBK := Lib.hid hblk; clear hblk))
  all_goals
    go_wp2
    have hb1 := blk_set HBK.out 0 (.slice A9 (xs.filter fun x => !(x.f0 == mark)).length c9)
    have hb2 := blk_set hb1 1 (.slice A14 (ys.filter fun x => !(x.f0 == mark)).length c14)
    have g9 : ∀ k, (Value.slice A9 (xs.filter fun x => !(x.f0 == mark)).length c9).ownBlock = some k → k ≠ g4 := fun k hk e => absurd (Kd.R_base HR9.out k hk) (Nat.not_le.2 (by rw [e]; exact L4.out))
    have g12 : ∀ k, v12.ownBlock = some k → k ≠ g4 ∧ w9.heap.size ≤ k := fun k hk => ⟨fun e => absurd (Kd.R_base HR12.out k hk) (Nat.not_le.2 (by rw [e]; exact (blk_lt HS9.out.2.2.2.2.out.choose_spec.choose_spec))), Kd.R_base HR12.out k hk⟩
    have g14 : ∀ k, (Value.slice A14 (ys.filter fun x => !(x.f0 == mark)).length c14).ownBlock = some k → k ≠ g4 := fun k hk e => absurd (Kd.R_base HR14.out k hk) (Nat.not_le.2 (by rw [e]; exact (blk_lt HS9.out.2.2.2.2.out.choose_spec.choose_spec)))
    have HR9' : Kd.R k26 26 w14 w4.drew.heap.size (fun _ => True) (.slice A9 (xs.filter fun x => !(x.f0 == mark)).length c9) (xs.filter fun x => !(x.f0 == mark)) :=
      Kd.R_mono (Kd.R_grown (Kd.R_below (Kd.R_bound HR9.out) HB12.out) HG14.out (fun k hk e => absurd (g12 k e.symm).2 (Nat.not_le.2 hk.2.2.1))) (fun _ _ => trivial)
    refine bodyPost_ret (results_cell_row rfl _ _ g4 28 #[.slice A9 (xs.filter fun x => !(x.f0 == mark)).length c9, .slice A14 (ys.filter fun x => !(x.f0 == mark)).length c14] (0, 0) _ rfl (by simpa using hb2) Try.underlying28 rfl (by kernel_rfl)) rfl ?_
    have hbase : w.heap.size ≤ w4.drew.heap.size := Nat.le_trans QW.out.size L0.out
    have hbase' : w.heap.size ≤ w9.heap.size := Nat.le_trans QW.out.size HS9.out.2.2.2.1.size
    refine ⟨_, _, rfl, ?_, ?_, ?_⟩
    · refine Kd.R_lower (Kd.R_mono (Kd.R_far (Kd.R_far (Kd.R_tight rfl HR9') ?_ _) ?_ _) (fun _ _ => trivial)) hbase <;> exact fun k hk => g9 k hk.symm
    · refine Kd.R_lower (Kd.R_mono (Kd.R_far (Kd.R_far (Kd.R_tight rfl HR14.out) ?_ _) ?_ _) (fun _ _ => trivial)) hbase' <;> exact fun k hk => g14 k hk.symm
    · exact below_set (below_set (below_then QW.out QW.out.size HS14.out.2.2.2.1) (by rw [HG4.out]; exact QW.out.size)) (by rw [HG4.out]; exact QW.out.size)
def marks_Drop.f (l0_0 : List (S26)) (l0_1 : List (S38)) (a1 : Int) : Option ((List (S26)) × (List (S38))) := if l0_0.length * 24 ≤ 140737488355328 then (if l0_1.length * 16 ≤ 140737488355328 then some (l0_0.filter fun x => !(x.f0 == a1), l0_1.filter fun x => !(x.f0 == a1)) else none) else none
theorem marks_Drop.calls (A0_0 : Option Addr) (c0_0 : Nat) (l0_0 : List (S26)) (A0_1 : Option Addr) (c0_1 : Nat) (l0_1 : List (S38)) (a1 : Int) (r1 : List (S26)) (r2 : List (S38)) (w : World) (hr0_0 : Kd.C k26 w A0_0 l0_0.length l0_0) (hc0_0 : l0_0.length ≤ c0_0) (hr0_1 : Kd.C k38 w A0_1 l0_1.length l0_1) (hc0_1 : l0_1.length ≤ c0_1) (h : marks_Drop.f l0_0 l0_1 a1 = some (r1, r2)) :
    Calls Try.prog 14 #[.agg #[.slice A0_0 l0_0.length c0_0, .slice A0_1 l0_1.length c0_1], .int .i64 a1] w fun e w' => ∃ v0_ v1_ : Value, e = .returned (.agg #[v0_, v1_]) ∧ Kd.R k26 26 w' w.heap.size (fun _ => True) v0_ r1 ∧ Kd.R k38 38 w' w.heap.size (fun _ => True) v1_ r2 ∧ Below w.heap.size w w' := by
  unfold marks_Drop.f at h
  split at h
  · split at h
    · rename_i h0 h1
      injection h with h
      injection h with e1 e2
      subst e1
      subst e2
      exact drop14 w A0_0 A0_1 c0_0 c0_1 l0_0 l0_1 a1 hr0_0 hc0_0 hr0_1 hc0_1 h0 h1
    · cases h
  · cases h
end Go.Proofs.Ytdgjjdpeaohebaa.PMarksDrop
