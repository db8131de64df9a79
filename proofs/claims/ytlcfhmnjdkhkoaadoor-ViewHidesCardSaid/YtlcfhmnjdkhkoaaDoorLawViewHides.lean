/- The row and the tied card of the law ViewHides, out of its walk. Conditions: none beside the row's own. -/
import Derived.Test.YtlcfhmnjdkhkoaaDoorRows
import Derived.Test.YtlcfhmnjdkhkoaaDoorCards
import Derived.Test.YtlcfhmnjdkhkoaaDoorTie
import Derived.Test.YtlcfhmnjdkhkoaaDoorRd
import Derived.Test.YtlcfhmnjdkhkoaaDoorGG
import Derived.WalkKit
import Derived.ProofKit
import Derived.OpenShut
import Derived.ShutString
import Derived.ChangeOld
import Derived.Below
import Derived.SizedLaws
import Derived.LaidMore
import Derived.Lay
import Derived.SevenTiedAt
import Derived.Stop.Joined
import Derived.Lib.LaidU8T
import Derived.Lib.LaidIn
namespace Go.Proofs.YtlcfhmnjdkhkoaaDoor.viewHides
open Go.ChangeShapes Go.WideShapes Go.ChangeAt Go.RowKit
open Go.ChangeMaps (open_string shut_string)
open Go.Proofs.YtlcfhmnjdkhkoaaDoorRd Go.Proofs.YtlcfhmnjdkhkoaaDoorW.PrintWords
open Go.Proofs.YtlcfhmnjdkhkoaaDoor.Seg
set_option linter.unusedVariables false
theorem own : ownKnob Tryd.prog.godebug = none := by kernel_rfl
theorem laidIs : Rows.viewHidesRow.laid = [("unicode/utf8.acceptRanges", Lib.acceptData), ("unicode/utf8.first", Lib.firstData)] := by kernel_rfl
theorem tabs {W : World} (h : laidMetH Tryd.prog Rows.viewHidesRow.laid W) : Lib.Utf8Tabs (Tryd.lays196_ren.g 3) (Tryd.lays196_ren.g 4) W := by
  rw [MakeChecks.laidMetH_plain _ _ _ (by kernel_rfl), laidIs] at h
  exact utf8Tabs_of_readsT (U8Types.of196 Tryd.lays196) ⟨by kernel_rfl, by kernel_rfl, by kernel_rfl, by kernel_rfl, by kernel_rfl, by kernel_rfl, by kernel_rfl⟩ (Lib.laidMet.reads h (.tail _ (.head _))) (Lib.laidMet.reads h (.head _))
theorem rd78 : Rds Tryd.prog PViewRuns.k78 78 (fun x => ((Lit.int .i64 x.f0).wf = true ∧ (Lit.int .i64 x.f1).wf = true ∧ (Lit.int .i64 x.f2).wf = true)) := rds_imp (rds_iso (fun x : PViewRuns.S78 => (x.f0, x.f1, x.f2)) (fun p => ⟨p.1, p.2.1, p.2.2⟩) (fun _ => rfl) (rds_struct Tryd.underlying78 (rdf_cons (rds_int (P := Tryd.prog) (t := 3) Tryd.underlying3) rfl (by kernel_rfl) (rdf_cons (rds_int (P := Tryd.prog) (t := 3) Tryd.underlying3) rfl (by kernel_rfl) (rdf_one (rds_int (P := Tryd.prog) (t := 3) Tryd.underlying3) rfl (by kernel_rfl)))) (by kernel_rfl))) (fun x h => h)
theorem rd30 : Rds Tryd.prog (Kd.slice 78 PViewRuns.k78) 30 (fun x => (x.length * 24 ≤ 140737488351232 ∧ ∀ y0 ∈ x, ((Lit.int .i64 y0.f0).wf = true ∧ (Lit.int .i64 y0.f1).wf = true ∧ (Lit.int .i64 y0.f2).wf = true))) := rds_imp (rds_slice PViewRuns.z78 Tryd.underlying30 rd78 (by kernel_rfl) (by kernel_rfl)) (fun _ h => h)
theorem rd81 : Rds Tryd.prog PViewRuns.k81 81 (fun x => ((Lit.int .i64 x.f0).wf = true ∧ (Lit.int .i64 x.f1).wf = true)) := rds_imp (rds_iso (fun x : PViewRuns.S81 => (x.f0, x.f1)) (fun p => ⟨p.1, p.2⟩) (fun _ => rfl) (rds_struct Tryd.underlying81 (rdf_cons (rds_int (P := Tryd.prog) (t := 3) Tryd.underlying3) rfl (by kernel_rfl) (rdf_one (rds_int (P := Tryd.prog) (t := 3) Tryd.underlying3) rfl (by kernel_rfl))) (by kernel_rfl))) (fun x h => h)
theorem rd31 : Rds Tryd.prog (Kd.slice 81 PViewRuns.k81) 31 (fun x => (x.length * 16 ≤ 140737488351232 ∧ ∀ y0 ∈ x, ((Lit.int .i64 y0.f0).wf = true ∧ (Lit.int .i64 y0.f1).wf = true))) := rds_imp (rds_slice PViewRuns.z81 Tryd.underlying31 rd81 (by kernel_rfl) (by kernel_rfl)) (fun _ h => h)
theorem rd33 : Rds Tryd.prog PViewRuns.k33 33 (fun x => ((Lit.int .i64 x.f0).wf = true ∧ (Lit.int .i64 x.f1).wf = true ∧ x.f2.size ≤ 140737488351232 ∧ (x.f3.length * 24 ≤ 140737488351232 ∧ ∀ y0 ∈ x.f3, ((Lit.int .i64 y0.f0).wf = true ∧ (Lit.int .i64 y0.f1).wf = true ∧ (Lit.int .i64 y0.f2).wf = true)) ∧ (x.f4.length * 16 ≤ 140737488351232 ∧ ∀ y0 ∈ x.f4, ((Lit.int .i64 y0.f0).wf = true ∧ (Lit.int .i64 y0.f1).wf = true)))) := rds_imp (rds_iso (fun x : PViewRuns.S33 => (x.f0, x.f1, x.f2, x.f3, x.f4)) (fun p => ⟨p.1, p.2.1, p.2.2.1, p.2.2.2.1, p.2.2.2.2⟩) (fun _ => rfl) (rds_struct Tryd.underlying33 (rdf_cons (rds_int (P := Tryd.prog) (t := 3) Tryd.underlying3) rfl (by kernel_rfl) (rdf_cons (rds_int (P := Tryd.prog) (t := 3) Tryd.underlying3) rfl (by kernel_rfl) (rdf_cons (rds_string (P := Tryd.prog) (t := 9) Tryd.underlying9) rfl (by kernel_rfl) (rdf_cons rd30 rfl (by kernel_rfl) (rdf_one rd31 rfl (by kernel_rfl)))))) (by kernel_rfl))) (fun x h => h)
theorem rd22 : Rds Tryd.prog (Kd.slice 33 PViewRuns.k33) 22 (fun x => (x.length * 80 ≤ 140737488351232 ∧ ∀ y0 ∈ x, ((Lit.int .i64 y0.f0).wf = true ∧ (Lit.int .i64 y0.f1).wf = true ∧ y0.f2.size ≤ 140737488351232 ∧ (y0.f3.length * 24 ≤ 140737488351232 ∧ ∀ y1 ∈ y0.f3, ((Lit.int .i64 y1.f0).wf = true ∧ (Lit.int .i64 y1.f1).wf = true ∧ (Lit.int .i64 y1.f2).wf = true)) ∧ (y0.f4.length * 16 ≤ 140737488351232 ∧ ∀ y1 ∈ y0.f4, ((Lit.int .i64 y1.f0).wf = true ∧ (Lit.int .i64 y1.f1).wf = true))))) := rds_imp (rds_slice PViewRuns.z33 Tryd.underlying22 rd33 (by kernel_rfl) (by kernel_rfl)) (fun _ h => h)
theorem rd23 : Rds Tryd.prog (Kd.slice 4 Kd.bool) 23 (fun x => (x.length * 1 ≤ 140737488351232 ∧ ∀ y0 ∈ x, True)) := rds_imp (rds_slice false Tryd.underlying23 (rds_bool (P := Tryd.prog) (t := 4) Tryd.underlying4) (by kernel_rfl) (by kernel_rfl)) (fun _ h => h)
theorem rd46 : Rds Tryd.prog (Kd.slice 9 Kd.string) 46 (fun x => (x.length * 16 ≤ 140737488351232 ∧ ∀ y0 ∈ x, y0.size ≤ 140737488351232)) := rds_imp (rds_slice (⟨#[]⟩ : ByteArray) Tryd.underlying46 (rds_string (P := Tryd.prog) (t := 9) Tryd.underlying9) (by kernel_rfl) (by kernel_rfl)) (fun _ h => h)
theorem laidOut : laidOutB Tryd.prog = true := by kernel_rfl
set_option maxRecDepth 100000 in
theorem lifted (os : Os) (started : os.Started) (H : Type) (enc : TypeId × Value → H) :
    ReturnsInHanded {} Tryd.checked os 4 .any (fun w args => (Rows.viewHidesSpec.pre enc Tryd.prog Tryd.f4 Rows.viewHidesRow.domain false w args ∧ laidMetH Tryd.prog Rows.viewHidesRow.laid w) ∧ sizedMet enc Tryd.prog Tryd.f4 (OpenSpec.ofChange Rows.viewHidesSpec) false w args)
      (Rows.viewHidesSpec.post enc Tryd.prog Tryd.f4 false true false false) := by
  refine returnsInHanded_of_change_and (C := Tryd.checked) (X := fun w _ => laidMetH Tryd.prog Rows.viewHidesRow.laid w) (fun _ _ _ hh h => h.of_heap hh) own started (by kernel_rfl) Tryd.func4
    (ChangeSpec.witness_shaped (enc := enc) (C := Tryd.checked) (os := os) (X := fun w _ => laidMetH Tryd.prog Rows.viewHidesRow.laid w) false (World.laidAll Tryd.prog os Rows.viewHidesRow.laid) #[.slice none 0 0, .slice none 0 0, .slice none 0 0] 8 (World.laidAll_os _ _ _)
      (World.shaped_of_ZipB (by kernel_rfl) (by kernel_rfl)) (by kernel_rfl) (by kernel_rfl) (by kernel_rfl)
      (by rw [MakeChecks.laidMetH_plain _ _ _ (by kernel_rfl)]; exact laidMet_laidAll _ (by kernel_rfl) (by kernel_rfl))) ?_
  intro W base args ds gs before hval0 hW _ hsz0 hL _
  have hsz : (DataW.weightsEach Tryd.prog (Tryd.f4.params.toList ++ Rows.viewHidesSpec.plain.varTypes Tryd.prog) (ds ++ gs)).all (· ≤ reachBytes) = true := hsz0
  have hval : ∀ (j : Nat) t v, Tryd.f4.params[j]? = some t → args[j]? = some v → Value.okWide Tryd.prog W .any base t v := hval0
  have hW' := hW
  obtain ⟨p, q, hA0, hV, rfl, hfz, hnd⟩ := hW
  have hA : DataW.TrodAll enc Tryd.prog W 0 (fun _ => true) true Tryd.f4.params.toList args.toList ds p := hA0
  rw [Tryd.params4] at hA hval hsz
  obtain ⟨v0, vs0, d0, ds0, p0, q0, hargs0, rfl, rfl, h0, r0⟩ := trodAll_cons hA
  obtain ⟨v1, vs1, d1, ds1, p1, q1, hargs1, rfl, rfl, h1, r1⟩ := trodAll_cons r0
  obtain ⟨v2, vs2, d2, ds2, p2, q2, hargs2, rfl, rfl, h2, r2⟩ := trodAll_cons r1
  obtain ⟨hn0, rfl, rfl⟩ := trodAll_nil r2
  obtain rfl : args = #[v0, v1, v2] := by apply Array.ext'; simp_all
  obtain ⟨rfl, rfl⟩ := trodVars_none hV
  have k0' := h0
  have lt0 : ∀ x ∈ p0, x.block < W.heap.size := by obtain ⟨m, hm⟩ := k0'; exact DataW.trod_lt m _ _ _ hm
  obtain ⟨l0, K0, w0⟩ := arg_of (j := 0) (t := 22) rd22 h0 hsz rfl rfl
  obtain ⟨A0, c0, rfl, hr0, hc0⟩ := arg_slice (okWide_slice Tryd.underlying22 (hval 0 22 v0 rfl rfl)) K0
  have k1' := h1
  have lt1 : ∀ x ∈ p1, x.block < W.heap.size := by obtain ⟨m, hm⟩ := k1'; exact DataW.trod_lt m _ _ _ hm
  obtain ⟨l1, K1, w1⟩ := arg_of (j := 1) (t := 23) rd23 h1 hsz rfl rfl
  obtain ⟨A1, c1, rfl, hr1, hc1⟩ := arg_slice (okWide_slice Tryd.underlying23 (hval 1 23 v1 rfl rfl)) K1
  have k2' := h2
  have lt2 : ∀ x ∈ p2, x.block < W.heap.size := by obtain ⟨m, hm⟩ := k2'; exact DataW.trod_lt m _ _ _ hm
  obtain ⟨l2, K2, w2⟩ := arg_of (j := 2) (t := 46) rd46 h2 hsz rfl rfl
  obtain ⟨A2, c2, rfl, hr2, hc2⟩ := arg_slice (okWide_slice Tryd.underlying46 (hval 2 46 v2 rfl rfl)) K2
  clear hA0 hval0
  have hT := tabs hL
  refine (Seg.viewHides_walk A0 c0 l0 A1 c1 l1 A2 c2 l2 W hT hr0 hc0 hr1 hc1 hr2 hc2 (by have := w0.1; omega) (fun x hx => by obtain ⟨_, _, h2, h3, h4⟩ := w0.2 x hx; have := h3.1; have := h4.1; refine ⟨by omega, by omega, by omega⟩) (fun x hx => (w0.2 x hx).1) (by have := w2.1; omega) (fun x hx => by have := w2.2 x hx; omega)).mono fun e W' hpost => ?_
  obtain ⟨he, bel⟩ := hpost
  subst he
  exact ⟨_, rfl, _, _, _, [], _, [], hW', trodAll_mk1 (shut_bool Tryd.underlying4 _), (trodAll_cons_mk (Below.trod laidOut (by kernel_rfl) (of_decide_eq_true (by kernel_rfl)) k0' bel lt0) (trodAll_cons_mk (Below.trod laidOut (by kernel_rfl) (of_decide_eq_true (by kernel_rfl)) k1' bel lt1) (trodAll_cons_mk (Below.trod laidOut (by kernel_rfl) (of_decide_eq_true (by kernel_rfl)) k2' bel lt2) trodAll_mk0))), rfl, bel.frame _, fun h => by cases h⟩
theorem over : Rows.viewHidesRow.holds Tryd.pinned (OpenSpec.ofChange Rows.viewHidesSpec) :=
  OpenClaim.holds_of_wide 4 Tryd.f4 rfl rfl rfl rfl rfl rfl rfl ⟨rfl, rfl, rfl, rfl, rfl⟩ rfl rfl rfl rfl rfl (by kernel_rfl) Tryd.func4 (by kernel_rfl)
    (of_decide_eq_true (by kernel_rfl)) (by unfold Func.isWrapper; first | (rw [if_pos (by decide +kernel)]; kernel_rfl) | (rw [if_neg (by decide +kernel)]; exact ⟨rfl, rfl⟩))
    (fun os started H enc _ => lifted os started H enc)
theorem card : Rows.ViewHidesCardSaid :=
  Claim7.holds_tied_plain_at .later [] [.data, .pinned] true (true, "1f69ff57eea26320e92d9888f2c006c957e28659a6526c200fc8aed7585acc98") false over (fun _ h => by cases h) (by kernel_rfl) (fun _ h => by cases h) viewHides_row_tie rfl ⟨rfl, rfl⟩ (by kernel_rfl) rfl
    (fun f fn hf hfn => by
      obtain rfl : f = 4 := Option.some.inj ((show Tryd.prog.funcNamed "chancel/chancellaw08.ViewHides" = some 4 by kernel_rfl).symm.trans hf) |>.symm
      obtain rfl : fn = Tryd.f4 := (Option.some.inj (Tryd.func4.symm.trans hfn)).symm
      exact ⟨by kernel_rfl, fun j t ht => by
        rw [Tryd.params4] at ht
        have hm : t ∈ [22, 23, 46] := by simpa using Array.mem_of_getElem? ht
        have hall : ([22, 23, 46].all fun u => !Tryd.prog.wantsStandIn u) = true := by kernel_rfl
        exact (show Tryd.prog.wantsStandIn t = false by simpa using List.all_eq_true.1 hall t hm)⟩)
    (by kernel_rfl)
end Go.Proofs.YtlcfhmnjdkhkoaaDoor.viewHides
namespace Go.Proofs.YtlcfhmnjdkhkoaaDoor
/-- The card, under a short name, for the claim. -/
theorem viewHides_holds : Rows.ViewHidesCardSaid := viewHides.card
end Go.Proofs.YtlcfhmnjdkhkoaaDoor
