/- The row and the tied card of the law SegmentTakenBack, out of its walk. Conditions: none beside the row's own. -/
import Derived.Test.YtjphmebhofkhcaaDoorRows
import Derived.Test.YtjphmebhofkhcaaDoorCards
import Derived.Test.YtjphmebhofkhcaaDoorTie
import Derived.Test.YtjphmebhofkhcaaDoorRd
import Derived.Test.YtjphmebhofkhcaaDoorGF
import Derived.WalkKit
import Derived.ProofKit
import Derived.OpenShut
import Derived.ShutString
import Derived.ChangeOld
import Derived.Below
import Derived.SizedLaws
import Derived.LaidMore
import Derived.Lay
import Derived.SevenTiedAt
import Derived.Stop.Joined
import Derived.Lib.LaidU8T
import Derived.Lib.LaidIn
namespace Go.Proofs.YtjphmebhofkhcaaDoor.segmentTakenBack
open Go.ChangeShapes Go.WideShapes Go.ChangeAt Go.RowKit
open Go.ChangeMaps (open_string shut_string)
open Go.Proofs.YtjphmebhofkhcaaDoorRd Go.Proofs.YtjphmebhofkhcaaDoorW.PrintWords
open Go.Proofs.YtjphmebhofkhcaaDoor.Seg
set_option linter.unusedVariables false
theorem own : ownKnob Tryd.prog.godebug = none := by kernel_rfl
theorem laidIs : Rows.segmentTakenBackRow.laid = [("unicode/utf8.acceptRanges", Lib.acceptData), ("unicode/utf8.first", Lib.firstData)] := by kernel_rfl
theorem tabs {W : World} (h : laidMetH Tryd.prog Rows.segmentTakenBackRow.laid W) : Lib.Utf8Tabs (Tryd.lays196_ren.g 3) (Tryd.lays196_ren.g 4) W := by
  rw [MakeChecks.laidMetH_plain _ _ _ (by kernel_rfl), laidIs] at h
  exact utf8Tabs_of_readsT (U8Types.of196 Tryd.lays196) ⟨by kernel_rfl, by kernel_rfl, by kernel_rfl, by kernel_rfl, by kernel_rfl, by kernel_rfl, by kernel_rfl⟩ (Lib.laidMet.reads h (.tail _ (.head _))) (Lib.laidMet.reads h (.head _))
theorem rd67 : Rds Tryd.prog PSegAll.k67 67 (fun x => ((Lit.int .i64 x.f0).wf = true ∧ (Lit.int .i64 x.f1).wf = true ∧ (Lit.int .i64 x.f2).wf = true)) := rds_imp (rds_iso (fun x : PSegAll.S67 => (x.f0, x.f1, x.f2)) (fun p => ⟨p.1, p.2.1, p.2.2⟩) (fun _ => rfl) (rds_struct Tryd.underlying67 (rdf_cons (rds_int (P := Tryd.prog) (t := 3) Tryd.underlying3) rfl (by kernel_rfl) (rdf_cons (rds_int (P := Tryd.prog) (t := 3) Tryd.underlying3) rfl (by kernel_rfl) (rdf_one (rds_int (P := Tryd.prog) (t := 3) Tryd.underlying3) rfl (by kernel_rfl)))) (by kernel_rfl))) (fun x h => h)
theorem rd22 : Rds Tryd.prog (Kd.slice 67 PSegAll.k67) 22 (fun x => (x.length * 24 ≤ 140737488351232 ∧ ∀ y0 ∈ x, ((Lit.int .i64 y0.f0).wf = true ∧ (Lit.int .i64 y0.f1).wf = true ∧ (Lit.int .i64 y0.f2).wf = true))) := rds_imp (rds_slice PSegAll.z67 Tryd.underlying22 rd67 (by kernel_rfl) (by kernel_rfl)) (fun _ h => h)
theorem rd70 : Rds Tryd.prog PSegAll.k70 70 (fun x => ((Lit.int .i64 x.f0).wf = true ∧ (Lit.int .i64 x.f1).wf = true)) := rds_imp (rds_iso (fun x : PSegAll.S70 => (x.f0, x.f1)) (fun p => ⟨p.1, p.2⟩) (fun _ => rfl) (rds_struct Tryd.underlying70 (rdf_cons (rds_int (P := Tryd.prog) (t := 3) Tryd.underlying3) rfl (by kernel_rfl) (rdf_one (rds_int (P := Tryd.prog) (t := 3) Tryd.underlying3) rfl (by kernel_rfl))) (by kernel_rfl))) (fun x h => h)
theorem rd23 : Rds Tryd.prog (Kd.slice 70 PSegAll.k70) 23 (fun x => (x.length * 16 ≤ 140737488351232 ∧ ∀ y0 ∈ x, ((Lit.int .i64 y0.f0).wf = true ∧ (Lit.int .i64 y0.f1).wf = true))) := rds_imp (rds_slice PSegAll.z70 Tryd.underlying23 rd70 (by kernel_rfl) (by kernel_rfl)) (fun _ h => h)
theorem rd25 : Rds Tryd.prog PSegAll.k25 25 (fun x => ((Lit.int .i64 x.f0).wf = true ∧ (Lit.int .i64 x.f1).wf = true ∧ x.f2.size ≤ 140737488351232 ∧ (x.f3.length * 24 ≤ 140737488351232 ∧ ∀ y0 ∈ x.f3, ((Lit.int .i64 y0.f0).wf = true ∧ (Lit.int .i64 y0.f1).wf = true ∧ (Lit.int .i64 y0.f2).wf = true)) ∧ (x.f4.length * 16 ≤ 140737488351232 ∧ ∀ y0 ∈ x.f4, ((Lit.int .i64 y0.f0).wf = true ∧ (Lit.int .i64 y0.f1).wf = true)))) := rds_imp (rds_iso (fun x : PSegAll.S25 => (x.f0, x.f1, x.f2, x.f3, x.f4)) (fun p => ⟨p.1, p.2.1, p.2.2.1, p.2.2.2.1, p.2.2.2.2⟩) (fun _ => rfl) (rds_struct Tryd.underlying25 (rdf_cons (rds_int (P := Tryd.prog) (t := 3) Tryd.underlying3) rfl (by kernel_rfl) (rdf_cons (rds_int (P := Tryd.prog) (t := 3) Tryd.underlying3) rfl (by kernel_rfl) (rdf_cons (rds_string (P := Tryd.prog) (t := 9) Tryd.underlying9) rfl (by kernel_rfl) (rdf_cons rd22 rfl (by kernel_rfl) (rdf_one rd23 rfl (by kernel_rfl)))))) (by kernel_rfl))) (fun x h => h)
theorem rd37 : Rds Tryd.prog PSegAll.k37 37 (fun x => ((Lit.int .i64 x.f0).wf = true ∧ (Lit.int .i64 x.f1).wf = true ∧ (Lit.int .i64 x.f2).wf = true ∧ (Lit.int .i64 x.f3).wf = true ∧ x.f4.size ≤ 140737488351232)) := rds_imp (rds_iso (fun x : PSegAll.S37 => (x.f0, x.f1, x.f2, x.f3, x.f4)) (fun p => ⟨p.1, p.2.1, p.2.2.1, p.2.2.2.1, p.2.2.2.2⟩) (fun _ => rfl) (rds_struct Tryd.underlying37 (rdf_cons (rds_int (P := Tryd.prog) (t := 3) Tryd.underlying3) rfl (by kernel_rfl) (rdf_cons (rds_int (P := Tryd.prog) (t := 3) Tryd.underlying3) rfl (by kernel_rfl) (rdf_cons (rds_int (P := Tryd.prog) (t := 3) Tryd.underlying3) rfl (by kernel_rfl) (rdf_cons (rds_int (P := Tryd.prog) (t := 3) Tryd.underlying3) rfl (by kernel_rfl) (rdf_one (rds_string (P := Tryd.prog) (t := 9) Tryd.underlying9) rfl (by kernel_rfl)))))) (by kernel_rfl))) (fun x h => h)
theorem laidOut : laidOutB Tryd.prog = true := by kernel_rfl
set_option maxRecDepth 100000 in
theorem lifted (os : Os) (started : os.Started) (H : Type) (enc : TypeId × Value → H) :
    ReturnsInHanded {} Tryd.checked os 7 .any (fun w args => (Rows.segmentTakenBackSpec.pre enc Tryd.prog Tryd.f7 Rows.segmentTakenBackRow.domain false w args ∧ laidMetH Tryd.prog Rows.segmentTakenBackRow.laid w) ∧ sizedMet enc Tryd.prog Tryd.f7 (OpenSpec.ofChange Rows.segmentTakenBackSpec) false w args)
      (Rows.segmentTakenBackSpec.post enc Tryd.prog Tryd.f7 false true false false) := by
  refine returnsInHanded_of_change_and (C := Tryd.checked) (X := fun w _ => laidMetH Tryd.prog Rows.segmentTakenBackRow.laid w) (fun _ _ _ hh h => h.of_heap hh) own started (by kernel_rfl) Tryd.func7
    (ChangeSpec.witness_shaped (enc := enc) (C := Tryd.checked) (os := os) (X := fun w _ => laidMetH Tryd.prog Rows.segmentTakenBackRow.laid w) false (World.laidAll Tryd.prog os Rows.segmentTakenBackRow.laid) #[.agg #[.int .i64 0, .int .i64 0, .string ⟨#[]⟩, .slice none 0 0, .slice none 0 0], .agg #[.int .i64 0, .int .i64 0, .int .i64 0, .int .i64 0, .string ⟨#[]⟩]] 8 (World.laidAll_os _ _ _)
      (World.shaped_of_ZipB (by kernel_rfl) (by kernel_rfl)) (by kernel_rfl) (by kernel_rfl) (by kernel_rfl)
      (by rw [MakeChecks.laidMetH_plain _ _ _ (by kernel_rfl)]; exact laidMet_laidAll _ (by kernel_rfl) (by kernel_rfl))) ?_
  intro W base args ds gs before hval0 hW _ hsz0 hL _
  have hsz : (DataW.weightsEach Tryd.prog (Tryd.f7.params.toList ++ Rows.segmentTakenBackSpec.plain.varTypes Tryd.prog) (ds ++ gs)).all (· ≤ reachBytes) = true := hsz0
  have hval : ∀ (j : Nat) t v, Tryd.f7.params[j]? = some t → args[j]? = some v → Value.okWide Tryd.prog W .any base t v := hval0
  have hW' := hW
  obtain ⟨p, q, hA0, hV, rfl, hfz, hnd⟩ := hW
  have hA : DataW.TrodAll enc Tryd.prog W 0 (fun _ => true) true Tryd.f7.params.toList args.toList ds p := hA0
  rw [Tryd.params7] at hA hval hsz
  obtain ⟨v0, vs0, d0, ds0, p0, q0, hargs0, rfl, rfl, h0, r0⟩ := trodAll_cons hA
  obtain ⟨v1, vs1, d1, ds1, p1, q1, hargs1, rfl, rfl, h1, r1⟩ := trodAll_cons r0
  obtain ⟨hn0, rfl, rfl⟩ := trodAll_nil r1
  obtain rfl : args = #[v0, v1] := by apply Array.ext'; simp_all
  obtain ⟨rfl, rfl⟩ := trodVars_none hV
  have k0' := h0
  have lt0 : ∀ x ∈ p0, x.block < W.heap.size := by obtain ⟨m, hm⟩ := k0'; exact DataW.trod_lt m _ _ _ hm
  obtain ⟨l0, K0, w0⟩ := arg_of (j := 0) (t := 25) rd25 h0 hsz rfl rfl
  obtain ⟨av0, rfl, _⟩ := okWide_struct Tryd.underlying25 (hval 0 25 v0 rfl rfl)
  obtain ⟨A0, c0, B0, d0, e0, xa0, xb0, xc0, xd0⟩ := PSegAll.k25_open K0
  obtain rfl : av0 = gC l0 A0 c0 B0 d0 := by apply Array.ext'; exact e0
  have k1' := h1
  have lt1 : ∀ x ∈ p1, x.block < W.heap.size := by obtain ⟨m, hm⟩ := k1'; exact DataW.trod_lt m _ _ _ hm
  obtain ⟨l1, K1, w1⟩ := arg_of (j := 1) (t := 37) rd37 h1 hsz rfl rfl
  obtain ⟨av1, rfl, _⟩ := okWide_struct Tryd.underlying37 (hval 1 37 v1 rfl rfl)
  obtain rfl : av1 = Seg.dC l1 := by apply Array.ext'; exact PSegAll.k37_open K1
  clear hA0 hval0
  have hT := tabs hL
  refine (Seg.segTaken_walk l0 A0 c0 B0 d0 l1 W hT ⟨xa0, xc0, xb0, xd0⟩ (by have := w1; omega)).mono fun e W' hpost => ?_
  obtain ⟨he, bel⟩ := hpost
  subst he
  exact ⟨_, rfl, _, _, _, [], _, [], hW', trodAll_mk1 (shut_bool Tryd.underlying4 _), (trodAll_cons_mk (Below.trod laidOut (by kernel_rfl) (of_decide_eq_true (by kernel_rfl)) k0' bel lt0) (trodAll_cons_mk (Below.trod laidOut (by kernel_rfl) (of_decide_eq_true (by kernel_rfl)) k1' bel lt1) trodAll_mk0)), rfl, bel.frame _, fun h => by cases h⟩
theorem over : Rows.segmentTakenBackRow.holds Tryd.pinned (OpenSpec.ofChange Rows.segmentTakenBackSpec) :=
  OpenClaim.holds_of_wide 7 Tryd.f7 rfl rfl rfl rfl rfl rfl rfl ⟨rfl, rfl, rfl, rfl, rfl⟩ rfl rfl rfl rfl rfl (by kernel_rfl) Tryd.func7 (by kernel_rfl)
    (of_decide_eq_true (by kernel_rfl)) (by unfold Func.isWrapper; first | (rw [if_pos (by decide +kernel)]; kernel_rfl) | (rw [if_neg (by decide +kernel)]; exact ⟨rfl, rfl⟩))
    (fun os started H enc _ => lifted os started H enc)
theorem card : Rows.SegmentTakenBackCardSaid :=
  Claim7.holds_tied_plain_at .later [] [.data, .pinned] true (true, "590cb27152f4f6f2a9c3dab41872559a44ab2107bb29b67653591757b7981723") false over (fun _ h => by cases h) (by kernel_rfl) (fun _ h => by cases h) segmentTakenBack_row_tie rfl ⟨rfl, rfl⟩ (by kernel_rfl) rfl
    (fun f fn hf hfn => by
      obtain rfl : f = 7 := Option.some.inj ((show Tryd.prog.funcNamed "chancel/chancellaw05.SegmentTakenBack" = some 7 by kernel_rfl).symm.trans hf) |>.symm
      obtain rfl : fn = Tryd.f7 := (Option.some.inj (Tryd.func7.symm.trans hfn)).symm
      exact ⟨by kernel_rfl, fun j t ht => by
        rw [Tryd.params7] at ht
        have hm : t ∈ [25, 37] := by simpa using Array.mem_of_getElem? ht
        have hall : ([25, 37].all fun u => !Tryd.prog.wantsStandIn u) = true := by kernel_rfl
        exact (show Tryd.prog.wantsStandIn t = false by simpa using List.all_eq_true.1 hall t hm)⟩)
    (by kernel_rfl)
end Go.Proofs.YtjphmebhofkhcaaDoor.segmentTakenBack
namespace Go.Proofs.YtjphmebhofkhcaaDoor
/-- The card, under a short name, for the claim. -/
theorem segmentTakenBack_holds : Rows.SegmentTakenBackCardSaid := segmentTakenBack.card
end Go.Proofs.YtjphmebhofkhcaaDoor
