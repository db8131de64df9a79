/- The row and the tied card of the law SheetForks, out of its walk. Conditions: none beside the row's own. -/
import Derived.Test.YtkkjebjlgcggcaaDoorRows
import Derived.Test.YtkkjebjlgcggcaaDoorCards
import Derived.Test.YtkkjebjlgcggcaaDoorTie
import Derived.Test.YtkkjebjlgcggcaaDoorRd
import Derived.Test.YtkkjebjlgcggcaaDoorGH
import Derived.WalkKit
import Derived.ProofKit
import Derived.OpenShut
import Derived.ShutString
import Derived.ChangeOld
import Derived.Below
import Derived.SizedLaws
import Derived.LaidMore
import Derived.Lay
import Derived.SevenTiedAt
import Derived.Stop.Joined
import Derived.Lib.LaidU8T
import Derived.Lib.LaidIn
namespace Go.Proofs.YtkkjebjlgcggcaaDoor.sheetForks
open Go.ChangeShapes Go.WideShapes Go.ChangeAt Go.RowKit
open Go.ChangeMaps (open_string shut_string)
open Go.Proofs.YtkkjebjlgcggcaaDoorRd Go.Proofs.YtkkjebjlgcggcaaDoorW.PrintWords
open Go.Proofs.YtkkjebjlgcggcaaDoor.Seg
set_option linter.unusedVariables false
theorem own : ownKnob Tryd.prog.godebug = none := by kernel_rfl
theorem laidIs : Rows.sheetForksRow.laid = [("unicode/utf8.acceptRanges", Lib.acceptData), ("unicode/utf8.first", Lib.firstData)] := by kernel_rfl
theorem tabs {W : World} (h : laidMetH Tryd.prog Rows.sheetForksRow.laid W) : Lib.Utf8Tabs (Tryd.lays196_ren.g 3) (Tryd.lays196_ren.g 4) W := by
  rw [MakeChecks.laidMetH_plain _ _ _ (by kernel_rfl), laidIs] at h
  exact utf8Tabs_of_readsT (U8Types.of196 Tryd.lays196) ⟨by kernel_rfl, by kernel_rfl, by kernel_rfl, by kernel_rfl, by kernel_rfl, by kernel_rfl, by kernel_rfl⟩ (Lib.laidMet.reads h (.tail _ (.head _))) (Lib.laidMet.reads h (.head _))
theorem rd83 : Rds Tryd.prog PSheetForks.k83 83 (fun x => ((Lit.int .i64 x.f0).wf = true ∧ (Lit.int .i64 x.f1).wf = true ∧ (Lit.int .i64 x.f2).wf = true)) := rds_imp (rds_iso (fun x : PSheetForks.S83 => (x.f0, x.f1, x.f2)) (fun p => ⟨p.1, p.2.1, p.2.2⟩) (fun _ => rfl) (rds_struct Tryd.underlying83 (rdf_cons (rds_int (P := Tryd.prog) (t := 3) Tryd.underlying3) rfl (by kernel_rfl) (rdf_cons (rds_int (P := Tryd.prog) (t := 3) Tryd.underlying3) rfl (by kernel_rfl) (rdf_one (rds_int (P := Tryd.prog) (t := 3) Tryd.underlying3) rfl (by kernel_rfl)))) (by kernel_rfl))) (fun x h => h)
theorem rd37 : Rds Tryd.prog (Kd.slice 83 PSheetForks.k83) 37 (fun x => (x.length * 24 ≤ 140737488351232 ∧ ∀ y0 ∈ x, ((Lit.int .i64 y0.f0).wf = true ∧ (Lit.int .i64 y0.f1).wf = true ∧ (Lit.int .i64 y0.f2).wf = true))) := rds_imp (rds_slice PSheetForks.z83 Tryd.underlying37 rd83 (by kernel_rfl) (by kernel_rfl)) (fun _ h => h)
theorem rd86 : Rds Tryd.prog PSheetForks.k86 86 (fun x => ((Lit.int .i64 x.f0).wf = true ∧ (Lit.int .i64 x.f1).wf = true)) := rds_imp (rds_iso (fun x : PSheetForks.S86 => (x.f0, x.f1)) (fun p => ⟨p.1, p.2⟩) (fun _ => rfl) (rds_struct Tryd.underlying86 (rdf_cons (rds_int (P := Tryd.prog) (t := 3) Tryd.underlying3) rfl (by kernel_rfl) (rdf_one (rds_int (P := Tryd.prog) (t := 3) Tryd.underlying3) rfl (by kernel_rfl))) (by kernel_rfl))) (fun x h => h)
theorem rd38 : Rds Tryd.prog (Kd.slice 86 PSheetForks.k86) 38 (fun x => (x.length * 16 ≤ 140737488351232 ∧ ∀ y0 ∈ x, ((Lit.int .i64 y0.f0).wf = true ∧ (Lit.int .i64 y0.f1).wf = true))) := rds_imp (rds_slice PSheetForks.z86 Tryd.underlying38 rd86 (by kernel_rfl) (by kernel_rfl)) (fun _ h => h)
theorem rd40 : Rds Tryd.prog PSheetForks.k40 40 (fun x => ((Lit.int .i64 x.f0).wf = true ∧ (Lit.int .i64 x.f1).wf = true ∧ x.f2.size ≤ 140737488351232 ∧ (x.f3.length * 24 ≤ 140737488351232 ∧ ∀ y0 ∈ x.f3, ((Lit.int .i64 y0.f0).wf = true ∧ (Lit.int .i64 y0.f1).wf = true ∧ (Lit.int .i64 y0.f2).wf = true)) ∧ (x.f4.length * 16 ≤ 140737488351232 ∧ ∀ y0 ∈ x.f4, ((Lit.int .i64 y0.f0).wf = true ∧ (Lit.int .i64 y0.f1).wf = true)))) := rds_imp (rds_iso (fun x : PSheetForks.S40 => (x.f0, x.f1, x.f2, x.f3, x.f4)) (fun p => ⟨p.1, p.2.1, p.2.2.1, p.2.2.2.1, p.2.2.2.2⟩) (fun _ => rfl) (rds_struct Tryd.underlying40 (rdf_cons (rds_int (P := Tryd.prog) (t := 3) Tryd.underlying3) rfl (by kernel_rfl) (rdf_cons (rds_int (P := Tryd.prog) (t := 3) Tryd.underlying3) rfl (by kernel_rfl) (rdf_cons (rds_string (P := Tryd.prog) (t := 9) Tryd.underlying9) rfl (by kernel_rfl) (rdf_cons rd37 rfl (by kernel_rfl) (rdf_one rd38 rfl (by kernel_rfl)))))) (by kernel_rfl))) (fun x h => h)
theorem rd22 : Rds Tryd.prog (Kd.slice 40 PSheetForks.k40) 22 (fun x => (x.length * 80 ≤ 140737488351232 ∧ ∀ y0 ∈ x, ((Lit.int .i64 y0.f0).wf = true ∧ (Lit.int .i64 y0.f1).wf = true ∧ y0.f2.size ≤ 140737488351232 ∧ (y0.f3.length * 24 ≤ 140737488351232 ∧ ∀ y1 ∈ y0.f3, ((Lit.int .i64 y1.f0).wf = true ∧ (Lit.int .i64 y1.f1).wf = true ∧ (Lit.int .i64 y1.f2).wf = true)) ∧ (y0.f4.length * 16 ≤ 140737488351232 ∧ ∀ y1 ∈ y0.f4, ((Lit.int .i64 y1.f0).wf = true ∧ (Lit.int .i64 y1.f1).wf = true))))) := rds_imp (rds_slice PSheetForks.z40 Tryd.underlying22 rd40 (by kernel_rfl) (by kernel_rfl)) (fun _ h => h)
theorem laidOut : laidOutB Tryd.prog = true := by kernel_rfl
set_option maxRecDepth 100000 in
theorem lifted (os : Os) (started : os.Started) (H : Type) (enc : TypeId × Value → H) :
    ReturnsInHanded {} Tryd.checked os 6 .any (fun w args => (Rows.sheetForksSpec.pre enc Tryd.prog Tryd.f6 Rows.sheetForksRow.domain false w args ∧ laidMetH Tryd.prog Rows.sheetForksRow.laid w) ∧ sizedMet enc Tryd.prog Tryd.f6 (OpenSpec.ofChange Rows.sheetForksSpec) false w args)
      (Rows.sheetForksSpec.post enc Tryd.prog Tryd.f6 false true false false) := by
  refine returnsInHanded_of_change_and (C := Tryd.checked) (X := fun w _ => laidMetH Tryd.prog Rows.sheetForksRow.laid w) (fun _ _ _ hh h => h.of_heap hh) own started (by kernel_rfl) Tryd.func6
    (ChangeSpec.witness_shaped (enc := enc) (C := Tryd.checked) (os := os) (X := fun w _ => laidMetH Tryd.prog Rows.sheetForksRow.laid w) false (World.laidAll Tryd.prog os Rows.sheetForksRow.laid) #[.slice none 0 0, .int .i64 0, .int .i64 0] 8 (World.laidAll_os _ _ _)
      (World.shaped_of_ZipB (by kernel_rfl) (by kernel_rfl)) (by kernel_rfl) (by kernel_rfl) (by kernel_rfl)
      (by rw [MakeChecks.laidMetH_plain _ _ _ (by kernel_rfl)]; exact laidMet_laidAll _ (by kernel_rfl) (by kernel_rfl))) ?_
  intro W base args ds gs before hval0 hW _ hsz0 hL _
  have hsz : (DataW.weightsEach Tryd.prog (Tryd.f6.params.toList ++ Rows.sheetForksSpec.plain.varTypes Tryd.prog) (ds ++ gs)).all (· ≤ reachBytes) = true := hsz0
  have hval : ∀ (j : Nat) t v, Tryd.f6.params[j]? = some t → args[j]? = some v → Value.okWide Tryd.prog W .any base t v := hval0
  have hW' := hW
  obtain ⟨p, q, hA0, hV, rfl, hfz, hnd⟩ := hW
  have hA : DataW.TrodAll enc Tryd.prog W 0 (fun _ => true) true Tryd.f6.params.toList args.toList ds p := hA0
  rw [Tryd.params6] at hA hval hsz
  obtain ⟨v0, vs0, d0, ds0, p0, q0, hargs0, rfl, rfl, h0, r0⟩ := trodAll_cons hA
  obtain ⟨v1, vs1, d1, ds1, p1, q1, hargs1, rfl, rfl, h1, r1⟩ := trodAll_cons r0
  obtain ⟨v2, vs2, d2, ds2, p2, q2, hargs2, rfl, rfl, h2, r2⟩ := trodAll_cons r1
  obtain ⟨hn0, rfl, rfl⟩ := trodAll_nil r2
  obtain rfl : args = #[v0, v1, v2] := by apply Array.ext'; simp_all
  obtain ⟨rfl, rfl⟩ := trodVars_none hV
  have k0' := h0
  have lt0 : ∀ x ∈ p0, x.block < W.heap.size := by obtain ⟨m, hm⟩ := k0'; exact DataW.trod_lt m _ _ _ hm
  obtain ⟨l0, K0, w0⟩ := arg_of (j := 0) (t := 22) rd22 h0 hsz rfl rfl
  obtain ⟨A0, c0, rfl, hr0, hc0⟩ := arg_slice (okWide_slice Tryd.underlying22 (hval 0 22 v0 rfl rfl)) K0
  obtain ⟨s1, rfl, rfl, rfl, ws1⟩ := open_int Tryd.underlying3 (hval 1 3 v1 rfl rfl) h1
  obtain ⟨s2, rfl, rfl, rfl, ws2⟩ := open_int Tryd.underlying3 (hval 2 3 v2 rfl rfl) h2
  clear hA0 hval0
  have hT := tabs hL
  refine (Seg.sheetForks_walk A0 c0 l0 s1 s2 W hT hr0 hc0 (by have := w0.1; omega) (fun x hx => by obtain ⟨_, _, h2, h3, h4⟩ := w0.2 x hx; have := h3.1; have := h4.1; refine ⟨by omega, by omega, by omega⟩) (fun x hx => (w0.2 x hx).1)).mono fun e W' hpost => ?_
  obtain ⟨he, bel⟩ := hpost
  subst he
  exact ⟨_, rfl, _, _, _, [], _, [], hW', trodAll_mk1 (shut_bool Tryd.underlying4 _), (trodAll_cons_mk (Below.trod laidOut (by kernel_rfl) (of_decide_eq_true (by kernel_rfl)) k0' bel lt0) (trodAll_cons_mk (shut_int Tryd.underlying3 ws1) (trodAll_cons_mk (shut_int Tryd.underlying3 ws2) trodAll_mk0))), rfl, bel.frame _, fun h => by cases h⟩
theorem over : Rows.sheetForksRow.holds Tryd.pinned (OpenSpec.ofChange Rows.sheetForksSpec) :=
  OpenClaim.holds_of_wide 6 Tryd.f6 rfl rfl rfl rfl rfl rfl rfl ⟨rfl, rfl, rfl, rfl, rfl⟩ rfl rfl rfl rfl rfl (by kernel_rfl) Tryd.func6 (by kernel_rfl)
    (of_decide_eq_true (by kernel_rfl)) (by unfold Func.isWrapper; first | (rw [if_pos (by decide +kernel)]; kernel_rfl) | (rw [if_neg (by decide +kernel)]; exact ⟨rfl, rfl⟩))
    (fun os started H enc _ => lifted os started H enc)
theorem card : Rows.SheetForksCardSaid :=
  Claim7.holds_tied_plain_at .later [] [.data, .pinned] true (true, "cf0e02f5203b3f890020dd6485da7acb4120f7152e4ad66fb4936cb137c5eefb") false over (fun _ h => by cases h) (by kernel_rfl) (fun _ h => by cases h) sheetForks_row_tie rfl ⟨rfl, rfl⟩ (by kernel_rfl) rfl
    (fun f fn hf hfn => by
      obtain rfl : f = 6 := Option.some.inj ((show Tryd.prog.funcNamed "chancel/chancellaw06.SheetForks" = some 6 by kernel_rfl).symm.trans hf) |>.symm
      obtain rfl : fn = Tryd.f6 := (Option.some.inj (Tryd.func6.symm.trans hfn)).symm
      exact ⟨by kernel_rfl, fun j t ht => by
        rw [Tryd.params6] at ht
        have hm : t ∈ [22, 3, 3] := by simpa using Array.mem_of_getElem? ht
        have hall : ([22, 3, 3].all fun u => !Tryd.prog.wantsStandIn u) = true := by kernel_rfl
        exact (show Tryd.prog.wantsStandIn t = false by simpa using List.all_eq_true.1 hall t hm)⟩)
    (by kernel_rfl)
end Go.Proofs.YtkkjebjlgcggcaaDoor.sheetForks
namespace Go.Proofs.YtkkjebjlgcggcaaDoor
/-- The card, under a short name, for the claim. -/
theorem sheetForks_holds : Rows.SheetForksCardSaid := sheetForks.card
end Go.Proofs.YtkkjebjlgcggcaaDoor
