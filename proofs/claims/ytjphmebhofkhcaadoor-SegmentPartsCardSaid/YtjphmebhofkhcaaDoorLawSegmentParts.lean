/- The row and the tied card of the law SegmentParts, out of its walk. Conditions: none beside the row's own. -/
import Derived.Test.YtjphmebhofkhcaaDoorRows
import Derived.Test.YtjphmebhofkhcaaDoorCards
import Derived.Test.YtjphmebhofkhcaaDoorTie
import Derived.Test.YtjphmebhofkhcaaDoorRd
import Derived.Test.YtjphmebhofkhcaaDoorGG
import Derived.WalkKit
import Derived.ProofKit
import Derived.OpenShut
import Derived.ShutString
import Derived.ChangeOld
import Derived.Below
import Derived.SizedLaws
import Derived.LaidMore
import Derived.Lay
import Derived.SevenTiedAt
import Derived.Stop.Joined
import Derived.Lib.LaidU8T
import Derived.Lib.LaidIn
namespace Go.Proofs.YtjphmebhofkhcaaDoor.segmentParts
open Go.ChangeShapes Go.WideShapes Go.ChangeAt Go.RowKit
open Go.ChangeMaps (open_string shut_string)
open Go.Proofs.YtjphmebhofkhcaaDoorRd Go.Proofs.YtjphmebhofkhcaaDoorW.PrintWords
open Go.Proofs.YtjphmebhofkhcaaDoor.Seg
set_option linter.unusedVariables false
theorem own : ownKnob Tryd.prog.godebug = none := by kernel_rfl
theorem laidIs : Rows.segmentPartsRow.laid = [("unicode/utf8.acceptRanges", Lib.acceptData), ("unicode/utf8.first", Lib.firstData)] := by kernel_rfl
theorem tabs {W : World} (h : laidMetH Tryd.prog Rows.segmentPartsRow.laid W) : Lib.Utf8Tabs (Tryd.lays196_ren.g 3) (Tryd.lays196_ren.g 4) W := by
  rw [MakeChecks.laidMetH_plain _ _ _ (by kernel_rfl), laidIs] at h
  exact utf8Tabs_of_readsT (U8Types.of196 Tryd.lays196) ⟨by kernel_rfl, by kernel_rfl, by kernel_rfl, by kernel_rfl, by kernel_rfl, by kernel_rfl, by kernel_rfl⟩ (Lib.laidMet.reads h (.tail _ (.head _))) (Lib.laidMet.reads h (.head _))
theorem rd67 : Rds Tryd.prog PSegAll.k67 67 (fun x => ((Lit.int .i64 x.f0).wf = true ∧ (Lit.int .i64 x.f1).wf = true ∧ (Lit.int .i64 x.f2).wf = true)) := rds_imp (rds_iso (fun x : PSegAll.S67 => (x.f0, x.f1, x.f2)) (fun p => ⟨p.1, p.2.1, p.2.2⟩) (fun _ => rfl) (rds_struct Tryd.underlying67 (rdf_cons (rds_int (P := Tryd.prog) (t := 3) Tryd.underlying3) rfl (by kernel_rfl) (rdf_cons (rds_int (P := Tryd.prog) (t := 3) Tryd.underlying3) rfl (by kernel_rfl) (rdf_one (rds_int (P := Tryd.prog) (t := 3) Tryd.underlying3) rfl (by kernel_rfl)))) (by kernel_rfl))) (fun x h => h)
theorem rd22 : Rds Tryd.prog (Kd.slice 67 PSegAll.k67) 22 (fun x => (x.length * 24 ≤ 140737488351232 ∧ ∀ y0 ∈ x, ((Lit.int .i64 y0.f0).wf = true ∧ (Lit.int .i64 y0.f1).wf = true ∧ (Lit.int .i64 y0.f2).wf = true))) := rds_imp (rds_slice PSegAll.z67 Tryd.underlying22 rd67 (by kernel_rfl) (by kernel_rfl)) (fun _ h => h)
theorem rd70 : Rds Tryd.prog PSegAll.k70 70 (fun x => ((Lit.int .i64 x.f0).wf = true ∧ (Lit.int .i64 x.f1).wf = true)) := rds_imp (rds_iso (fun x : PSegAll.S70 => (x.f0, x.f1)) (fun p => ⟨p.1, p.2⟩) (fun _ => rfl) (rds_struct Tryd.underlying70 (rdf_cons (rds_int (P := Tryd.prog) (t := 3) Tryd.underlying3) rfl (by kernel_rfl) (rdf_one (rds_int (P := Tryd.prog) (t := 3) Tryd.underlying3) rfl (by kernel_rfl))) (by kernel_rfl))) (fun x h => h)
theorem rd23 : Rds Tryd.prog (Kd.slice 70 PSegAll.k70) 23 (fun x => (x.length * 16 ≤ 140737488351232 ∧ ∀ y0 ∈ x, ((Lit.int .i64 y0.f0).wf = true ∧ (Lit.int .i64 y0.f1).wf = true))) := rds_imp (rds_slice PSegAll.z70 Tryd.underlying23 rd70 (by kernel_rfl) (by kernel_rfl)) (fun _ h => h)
theorem rd25 : Rds Tryd.prog PSegAll.k25 25 (fun x => ((Lit.int .i64 x.f0).wf = true ∧ (Lit.int .i64 x.f1).wf = true ∧ x.f2.size ≤ 140737488351232 ∧ (x.f3.length * 24 ≤ 140737488351232 ∧ ∀ y0 ∈ x.f3, ((Lit.int .i64 y0.f0).wf = true ∧ (Lit.int .i64 y0.f1).wf = true ∧ (Lit.int .i64 y0.f2).wf = true)) ∧ (x.f4.length * 16 ≤ 140737488351232 ∧ ∀ y0 ∈ x.f4, ((Lit.int .i64 y0.f0).wf = true ∧ (Lit.int .i64 y0.f1).wf = true)))) := rds_imp (rds_iso (fun x : PSegAll.S25 => (x.f0, x.f1, x.f2, x.f3, x.f4)) (fun p => ⟨p.1, p.2.1, p.2.2.1, p.2.2.2.1, p.2.2.2.2⟩) (fun _ => rfl) (rds_struct Tryd.underlying25 (rdf_cons (rds_int (P := Tryd.prog) (t := 3) Tryd.underlying3) rfl (by kernel_rfl) (rdf_cons (rds_int (P := Tryd.prog) (t := 3) Tryd.underlying3) rfl (by kernel_rfl) (rdf_cons (rds_string (P := Tryd.prog) (t := 9) Tryd.underlying9) rfl (by kernel_rfl) (rdf_cons rd22 rfl (by kernel_rfl) (rdf_one rd23 rfl (by kernel_rfl)))))) (by kernel_rfl))) (fun x h => h)
theorem rd37 : Rds Tryd.prog PSegAll.k37 37 (fun x => ((Lit.int .i64 x.f0).wf = true ∧ (Lit.int .i64 x.f1).wf = true ∧ (Lit.int .i64 x.f2).wf = true ∧ (Lit.int .i64 x.f3).wf = true ∧ x.f4.size ≤ 140737488351232)) := rds_imp (rds_iso (fun x : PSegAll.S37 => (x.f0, x.f1, x.f2, x.f3, x.f4)) (fun p => ⟨p.1, p.2.1, p.2.2.1, p.2.2.2.1, p.2.2.2.2⟩) (fun _ => rfl) (rds_struct Tryd.underlying37 (rdf_cons (rds_int (P := Tryd.prog) (t := 3) Tryd.underlying3) rfl (by kernel_rfl) (rdf_cons (rds_int (P := Tryd.prog) (t := 3) Tryd.underlying3) rfl (by kernel_rfl) (rdf_cons (rds_int (P := Tryd.prog) (t := 3) Tryd.underlying3) rfl (by kernel_rfl) (rdf_cons (rds_int (P := Tryd.prog) (t := 3) Tryd.underlying3) rfl (by kernel_rfl) (rdf_one (rds_string (P := Tryd.prog) (t := 9) Tryd.underlying9) rfl (by kernel_rfl)))))) (by kernel_rfl))) (fun x h => h)
set_option maxRecDepth 100000
theorem okWide_array51 {W : World} {r : Reach} {base : Nat} {v : Value} (h : Value.okWide Tryd.prog W r base 51 v) : ∃ cs, v = .agg cs ∧ cs.size = Tryd.prog.cellsOf 51 := by
  simp only [Value.okWide, Tryd.underlying51] at h
  obtain ⟨cs, h1, h2, _⟩ := h
  exact ⟨cs, h1, h2⟩
theorem arr2_int {H : Type} {enc : TypeId × Value → H} {P : Program} {w : World} {base : Nat} {sp : Nat → Bool} {held : Bool} {t e : TypeId} (ht : P.underlying t = some (.array 3 e)) (he : P.underlying e = some (.int .i64)) (hce : P.cellsOf e = 1) (hct : P.cellsOf t = 3)
    {v : Value} {d : DataW H} {p : List MemPlace} (h : DataW.Trod enc P w base sp held t v d p) : ∃ a b c, v.cells.toList = [.int .i64 a, .int .i64 b, .int .i64 c] ∧ (Lit.int .i64 a).wf = true ∧ (Lit.int .i64 b).wf = true ∧ (Lit.int .i64 c).wf = true := by
  obtain ⟨m, h⟩ := h
  obtain ⟨xs, m, rfl, hx, hl, hn, hg⟩ := DataW.trod_array ht h
  rw [hct] at hl
  obtain ⟨c0, c1, c2, hcs⟩ : ∃ c0 c1 c2, v.cells.toList = [c0, c1, c2] := by
    match hv : v.cells.toList, hl with
    | [a, b, c], _ => exact ⟨a, b, c, rfl⟩
  rw [hcs, hce] at hg
  obtain ⟨y0, y1, y2, hy⟩ : ∃ y0 y1 y2, xs = [y0, y1, y2] := by
    match xs, hn with
    | [a, b, c], _ => exact ⟨a, b, c, rfl⟩
  subst hy
  have g0 := hg 0 (by decide)
  have g1 := hg 1 (by decide)
  have g2 := hg 2 (by decide)
  obtain ⟨n0, e0, _, f0⟩ := DataW.trod_int he g0
  obtain ⟨n1, e1, _, f1⟩ := DataW.trod_int he g1
  obtain ⟨n2, e2, _, f2⟩ := DataW.trod_int he g2
  simp at e0 e1 e2
  exact ⟨n0, n1, n2, by rw [hcs, e0, e1, e2], f0, f1, f2⟩
theorem laidOut : laidOutB Tryd.prog = true := by kernel_rfl
set_option maxRecDepth 100000 in
theorem lifted (os : Os) (started : os.Started) (H : Type) (enc : TypeId × Value → H) :
    ReturnsInHanded {} Tryd.checked os 6 .any (fun w args => (Rows.segmentPartsSpec.pre enc Tryd.prog Tryd.f6 Rows.segmentPartsRow.domain false w args ∧ laidMetH Tryd.prog Rows.segmentPartsRow.laid w) ∧ sizedMet enc Tryd.prog Tryd.f6 (OpenSpec.ofChange Rows.segmentPartsSpec) false w args)
      (Rows.segmentPartsSpec.post enc Tryd.prog Tryd.f6 false true false false) := by
  refine returnsInHanded_of_change_and (C := Tryd.checked) (X := fun w _ => laidMetH Tryd.prog Rows.segmentPartsRow.laid w) (fun _ _ _ hh h => h.of_heap hh) own started (by kernel_rfl) Tryd.func6
    (ChangeSpec.witness_shaped (enc := enc) (C := Tryd.checked) (os := os) (X := fun w _ => laidMetH Tryd.prog Rows.segmentPartsRow.laid w) false (World.laidAll Tryd.prog os Rows.segmentPartsRow.laid) #[.agg #[.int .i64 0, .int .i64 0, .string ⟨#[]⟩, .slice none 0 0, .slice none 0 0], .agg #[.int .i64 0, .int .i64 0, .int .i64 0, .int .i64 0, .string ⟨#[]⟩], .agg #[.int .i64 0, .int .i64 0, .int .i64 0]] 8 (World.laidAll_os _ _ _)
      (World.shaped_of_ZipB (by kernel_rfl) (by kernel_rfl)) (by kernel_rfl) (by kernel_rfl) (by kernel_rfl)
      (by rw [MakeChecks.laidMetH_plain _ _ _ (by kernel_rfl)]; exact laidMet_laidAll _ (by kernel_rfl) (by kernel_rfl))) ?_
  intro W base args ds gs before hval0 hW _ hsz0 hL _
  have hsz : (DataW.weightsEach Tryd.prog (Tryd.f6.params.toList ++ Rows.segmentPartsSpec.plain.varTypes Tryd.prog) (ds ++ gs)).all (· ≤ reachBytes) = true := hsz0
  have hval : ∀ (j : Nat) t v, Tryd.f6.params[j]? = some t → args[j]? = some v → Value.okWide Tryd.prog W .any base t v := hval0
  have hW' := hW
  obtain ⟨p, q, hA0, hV, rfl, hfz, hnd⟩ := hW
  have hA : DataW.TrodAll enc Tryd.prog W 0 (fun _ => true) true Tryd.f6.params.toList args.toList ds p := hA0
  rw [Tryd.params6] at hA hval hsz
  obtain ⟨v0, vs0, d0, ds0, p0, q0, hargs0, rfl, rfl, h0, r0⟩ := trodAll_cons hA
  obtain ⟨v1, vs1, d1, ds1, p1, q1, hargs1, rfl, rfl, h1, r1⟩ := trodAll_cons r0
  obtain ⟨v2, vs2, d2, ds2, p2, q2, hargs2, rfl, rfl, h2, r2⟩ := trodAll_cons r1
  obtain ⟨hn0, rfl, rfl⟩ := trodAll_nil r2
  obtain rfl : args = #[v0, v1, v2] := by apply Array.ext'; simp_all
  obtain ⟨rfl, rfl⟩ := trodVars_none hV
  have k0' := h0
  have lt0 : ∀ x ∈ p0, x.block < W.heap.size := by obtain ⟨m, hm⟩ := k0'; exact DataW.trod_lt m _ _ _ hm
  obtain ⟨l0, K0, w0⟩ := arg_of (j := 0) (t := 25) rd25 h0 hsz rfl rfl
  obtain ⟨av0, rfl, _⟩ := okWide_struct Tryd.underlying25 (hval 0 25 v0 rfl rfl)
  obtain ⟨A0, c0, B0, d0, e0, xa0, xb0, xc0, xd0⟩ := PSegAll.k25_open K0
  obtain rfl : av0 = gC l0 A0 c0 B0 d0 := by apply Array.ext'; exact e0
  have k1' := h1
  have lt1 : ∀ x ∈ p1, x.block < W.heap.size := by obtain ⟨m, hm⟩ := k1'; exact DataW.trod_lt m _ _ _ hm
  obtain ⟨l1, K1, w1⟩ := arg_of (j := 1) (t := 37) rd37 h1 hsz rfl rfl
  obtain ⟨av1, rfl, _⟩ := okWide_struct Tryd.underlying37 (hval 1 37 v1 rfl rfl)
  obtain rfl : av1 = Seg.dC l1 := by apply Array.ext'; exact PSegAll.k37_open K1
  have k2' := h2
  have lt2 : ∀ x ∈ p2, x.block < W.heap.size := by obtain ⟨m, hm⟩ := k2'; exact DataW.trod_lt m _ _ _ hm
  obtain ⟨av2, rfl, _⟩ := okWide_array51 (hval 2 51 v2 rfl rfl)
  obtain ⟨s2a, s2b, s2c, e2, wa2, wb2, wc2⟩ := arr2_int (t := 51) (e := 3) Tryd.underlying51 Tryd.underlying3 (by kernel_rfl) (by kernel_rfl) h2
  obtain rfl : av2 = #[.int .i64 s2a, .int .i64 s2b, .int .i64 s2c] := by apply Array.ext'; exact e2
  clear hA0 hval0
  have hT := tabs hL
  refine (Seg.segParts_walk l0 A0 c0 B0 d0 l1 s2a s2b s2c W hT ⟨xa0, xc0, xb0, xd0⟩ (by have := w1; omega)).mono fun e W' hpost => ?_
  obtain ⟨he, bel⟩ := hpost
  subst he
  exact ⟨_, rfl, _, _, _, [], _, [], hW', trodAll_mk1 (shut_bool Tryd.underlying4 _), (trodAll_cons_mk (Below.trod laidOut (by kernel_rfl) (of_decide_eq_true (by kernel_rfl)) k0' bel lt0) (trodAll_cons_mk (Below.trod laidOut (by kernel_rfl) (of_decide_eq_true (by kernel_rfl)) k1' bel lt1) (trodAll_cons_mk (Below.trod laidOut (by kernel_rfl) (of_decide_eq_true (by kernel_rfl)) k2' bel lt2) trodAll_mk0))), rfl, bel.frame _, fun h => by cases h⟩
theorem over : Rows.segmentPartsRow.holds Tryd.pinned (OpenSpec.ofChange Rows.segmentPartsSpec) :=
  OpenClaim.holds_of_wide 6 Tryd.f6 rfl rfl rfl rfl rfl rfl rfl ⟨rfl, rfl, rfl, rfl, rfl⟩ rfl rfl rfl rfl rfl (by kernel_rfl) Tryd.func6 (by kernel_rfl)
    (of_decide_eq_true (by kernel_rfl)) (by unfold Func.isWrapper; first | (rw [if_pos (by decide +kernel)]; kernel_rfl) | (rw [if_neg (by decide +kernel)]; exact ⟨rfl, rfl⟩))
    (fun os started H enc _ => lifted os started H enc)
theorem card : Rows.SegmentPartsCardSaid :=
  Claim7.holds_tied_plain_at .later [] [.data, .pinned] true (true, "590cb27152f4f6f2a9c3dab41872559a44ab2107bb29b67653591757b7981723") false over (fun _ h => by cases h) (by kernel_rfl) (fun _ h => by cases h) segmentParts_row_tie rfl ⟨rfl, rfl⟩ (by kernel_rfl) rfl
    (fun f fn hf hfn => by
      obtain rfl : f = 6 := Option.some.inj ((show Tryd.prog.funcNamed "chancel/chancellaw05.SegmentParts" = some 6 by kernel_rfl).symm.trans hf) |>.symm
      obtain rfl : fn = Tryd.f6 := (Option.some.inj (Tryd.func6.symm.trans hfn)).symm
      exact ⟨by kernel_rfl, fun j t ht => by
        rw [Tryd.params6] at ht
        have hm : t ∈ [25, 37, 51] := by simpa using Array.mem_of_getElem? ht
        have hall : ([25, 37, 51].all fun u => !Tryd.prog.wantsStandIn u) = true := by kernel_rfl
        exact (show Tryd.prog.wantsStandIn t = false by simpa using List.all_eq_true.1 hall t hm)⟩)
    (by kernel_rfl)
end Go.Proofs.YtjphmebhofkhcaaDoor.segmentParts
namespace Go.Proofs.YtjphmebhofkhcaaDoor
/-- The card, under a short name, for the claim. -/
theorem segmentParts_holds : Rows.SegmentPartsCardSaid := segmentParts.card
end Go.Proofs.YtjphmebhofkhcaaDoor
