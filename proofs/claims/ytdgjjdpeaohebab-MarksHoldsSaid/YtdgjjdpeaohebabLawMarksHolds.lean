/- The row of the law MarksHolds out of its printed contract and its pure statement: for every input the law returns true and leaves its arguments as they were. Conditions: none beside the row's own. -/
import Derived.Test.YtdgjjdpeaohebabRows
import Derived.Test.YtdgjjdpeaohebabGMD
import Derived.Test.YtdgjjdpeaohebabRd
import Derived.Test.YtdgjjdpeaohebabPureMarksHolds
import Derived.WalkKit
import Derived.ProofKit
import Derived.OpenShut
import Derived.ShutString
import Derived.ChangeOld
import Derived.Below
import Derived.SizedLaws
namespace Go.Proofs.Ytdgjjdpeaohebab.marksHolds
open Go.ChangeShapes Go.WideShapes Go.ChangeAt Go.RowKit Go.Proofs.YtdgjjdpeaohebabRd Go.Proofs.Ytdgjjdpeaohebab.PMarksHolds Go.Proofs.YtdgjjdpeaohebabW.PrintWords
open Go.ChangeMaps (open_string shut_string)
set_option linter.unusedVariables false
theorem own : ownKnob Try.prog.godebug = none := by kernel_rfl
theorem laidOut : laidOutB Try.prog = true := by kernel_rfl
theorem rd34 : Rds Try.prog k34 34 (fun x => (Lit.int .i64 x.f0).wf = true ∧ (Lit.int .i64 x.f1).wf = true ∧ (Lit.int .i64 x.f2).wf = true) := rds_imp (rds_iso (fun x : S34 => (x.f0, x.f1, x.f2)) (fun p => ⟨p.1, p.2.1, p.2.2⟩) (fun _ => rfl) (rds_struct Try.underlying34 (rdf_cons (rds_int (P := Try.prog) (t := 3) Try.underlying3) rfl (by kernel_rfl) (rdf_cons (rds_int (P := Try.prog) (t := 3) Try.underlying3) rfl (by kernel_rfl) (rdf_one (rds_int (P := Try.prog) (t := 3) Try.underlying3) rfl (by kernel_rfl)))) (by kernel_rfl))) (fun x h => ⟨h.1, h.2.1, h.2.2⟩)
theorem rd22 : Rds Try.prog (Kd.slice 34 (k34)) 22 (fun xs => xs.length * 24 ≤ 140737488351232 ∧ ∀ x ∈ xs, ((Lit.int .i64 x.f0).wf = true ∧ (Lit.int .i64 x.f1).wf = true ∧ (Lit.int .i64 x.f2).wf = true)) := rds_imp (rds_slice (z34) Try.underlying22 rd34 (by kernel_rfl) (by kernel_rfl)) (fun _ h => h)
theorem rd48 : Rds Try.prog k48 48 (fun x => (Lit.int .i64 x.f0).wf = true ∧ (Lit.int .i64 x.f1).wf = true) := rds_imp (rds_iso (fun x : S48 => (x.f0, x.f1)) (fun p => ⟨p.1, p.2⟩) (fun _ => rfl) (rds_struct Try.underlying48 (rdf_cons (rds_int (P := Try.prog) (t := 3) Try.underlying3) rfl (by kernel_rfl) (rdf_one (rds_int (P := Try.prog) (t := 3) Try.underlying3) rfl (by kernel_rfl))) (by kernel_rfl))) (fun x h => ⟨h.1, h.2⟩)
theorem rd23 : Rds Try.prog (Kd.slice 48 (k48)) 23 (fun xs => xs.length * 16 ≤ 140737488351232 ∧ ∀ x ∈ xs, ((Lit.int .i64 x.f0).wf = true ∧ (Lit.int .i64 x.f1).wf = true)) := rds_imp (rds_slice (z48) Try.underlying23 rd48 (by kernel_rfl) (by kernel_rfl)) (fun _ h => h)
theorem rd38 : Rds Try.prog k38 38 (fun x => (Lit.int .i64 x.f0).wf = true ∧ (Lit.int .i64 x.f1).wf = true ∧ (Lit.int .i64 x.f2).wf = true ∧ (Lit.int .i64 x.f3).wf = true) := rds_imp (rds_iso (fun x : S38 => (x.f0, x.f1, x.f2, x.f3)) (fun p => ⟨p.1, p.2.1, p.2.2.1, p.2.2.2⟩) (fun _ => rfl) (rds_struct Try.underlying38 (rdf_cons (rds_int (P := Try.prog) (t := 3) Try.underlying3) rfl (by kernel_rfl) (rdf_cons (rds_int (P := Try.prog) (t := 3) Try.underlying3) rfl (by kernel_rfl) (rdf_cons (rds_int (P := Try.prog) (t := 3) Try.underlying3) rfl (by kernel_rfl) (rdf_one (rds_int (P := Try.prog) (t := 3) Try.underlying3) rfl (by kernel_rfl))))) (by kernel_rfl))) (fun x h => ⟨h.1, h.2.1, h.2.2.1, h.2.2.2⟩)
theorem rd26 : Rds Try.prog (Kd.slice 38 (k38)) 26 (fun xs => xs.length * 32 ≤ 140737488351232 ∧ ∀ x ∈ xs, ((Lit.int .i64 x.f0).wf = true ∧ (Lit.int .i64 x.f1).wf = true ∧ (Lit.int .i64 x.f2).wf = true ∧ (Lit.int .i64 x.f3).wf = true)) := rds_imp (rds_slice (z38) Try.underlying26 rd38 (by kernel_rfl) (by kernel_rfl)) (fun _ h => h)
set_option maxRecDepth 100000 in
theorem lifted (os : Os) (started : os.Started) (H : Type) (enc : TypeId × Value → H) :
    ReturnsInHanded {} Try.checked os 3 .any (Rows.marksHoldsSpec.pre6 enc Try.prog Try.f3 Rows.marksHoldsRow.domain false) (Rows.marksHoldsSpec.post enc Try.prog Try.f3 false true false false) := by
  refine returnsInHanded_of_change_sized (C := Try.checked) own started (by kernel_rfl) Try.func3
    (ChangeSpec.witness6 (enc := enc) (C := Try.checked) false ⟨#[], #[.agg #[.slice none 0 0, .slice none 0 0, .int .i64 0, .int .i64 0, .int .i64 0], .int .i64 0, .slice none 0 0], []⟩ 8 (by kernel_rfl) (by kernel_rfl) (by kernel_rfl) (by kernel_rfl)) ?_
  intro W base args ds gs before hval0 hW hcnd hsz0 _
  have hsz : (DataW.weightsEach Try.prog (Try.f3.params.toList ++ Rows.marksHoldsSpec.plain.varTypes Try.prog) (ds ++ gs)).all (· ≤ reachBytes) = true := hsz0
  have hval : ∀ (j : Nat) t v, Try.f3.params[j]? = some t → args[j]? = some v → Value.okWide Try.prog W .any base t v := hval0
  have hW' := hW
  obtain ⟨p, q, hA0, hV, rfl, hfz, hnd⟩ := hW
  have hA : DataW.TrodAll enc Try.prog W 0 (fun _ => true) true Try.f3.params.toList args.toList ds p := hA0
  rw [Try.params3] at hA hval hsz
  obtain ⟨v0, vs0, d0, ds0, p0, q0, hargs, rfl, rfl, h0, r0⟩ := trodAll_cons hA
  obtain ⟨v1, vs1, d1, ds1, p1, q1, rfl, rfl, rfl, h1, r1⟩ := trodAll_cons r0
  obtain ⟨v2, vs2, d2, ds2, p2, q2, rfl, rfl, rfl, h2, r2⟩ := trodAll_cons r1
  obtain ⟨rfl, rfl, rfl⟩ := trodAll_nil r2
  obtain rfl : args = #[v0, v1, v2] := by cases args; simp_all
  obtain ⟨rfl, rfl⟩ := trodVars_none hV
  have k0' := h0
  have lt0 : ∀ x ∈ p0, x.block < W.heap.size := by obtain ⟨m, hm⟩ := k0'; exact DataW.trod_lt m _ _ _ hm
  obtain ⟨t0, K0, W0⟩ := arg_of (j := 0) (t := 25) (rds_struct Try.underlying25 (rdf_cons rd22 rfl (by kernel_rfl) (rdf_cons rd23 rfl (by kernel_rfl) (rdf_cons (rds_int (P := Try.prog) (t := 3) Try.underlying3) rfl (by kernel_rfl) (rdf_cons (rds_int (P := Try.prog) (t := 3) Try.underlying3) rfl (by kernel_rfl) (rdf_one (rds_int (P := Try.prog) (t := 3) Try.underlying3) rfl (by kernel_rfl)))))) (by kernel_rfl)) h0 hsz rfl rfl
  obtain ⟨l0_0, l0_1, a0_2, a0_3, a0_4⟩ := t0
  obtain ⟨w0_0, w0_1, w0_2, w0_3, w0_4⟩ := W0
  obtain ⟨av0, rfl, _⟩ := okWide_struct Try.underlying25 (hval 0 25 v0 rfl rfl)
  obtain ⟨_, _, e0, ⟨A0_0, c0_0, rfl, hc0_0, hr0_0⟩, ⟨_, _, rfl, ⟨A0_1, c0_1, rfl, hc0_1, hr0_1⟩, ⟨_, _, rfl, rfl, ⟨_, _, rfl, rfl, rfl⟩⟩⟩⟩ := K0
  obtain rfl : av0 = #[.slice A0_0 l0_0.length c0_0, .slice A0_1 l0_1.length c0_1, .int .i64 a0_2, .int .i64 a0_3, .int .i64 a0_4] := by apply Array.ext'; exact e0
  obtain ⟨a1, rfl, rfl, rfl, w1⟩ := open_int Try.underlying3 (hval 1 3 v1 rfl rfl) h1
  have k2' := h2
  have lt2 : ∀ x ∈ p2, x.block < W.heap.size := by obtain ⟨m, hm⟩ := k2'; exact DataW.trod_lt m _ _ _ hm
  obtain ⟨l2, K2, w2⟩ := arg_of (j := 2) (t := 26) rd26 h2 hsz rfl rfl
  obtain ⟨A2, c2, rfl, hr2, hc2⟩ := arg_slice (okWide_slice Try.underlying26 (hval 2 26 v2 rfl rfl)) K2
  clear hA0 hval0 hsz0 hsz
  obtain ⟨k, h⟩ := Pure.MarksHolds l0_0 l0_1 a0_2 a0_3 a0_4 a1 l2 w0_0 w0_1 w0_2 w0_3 w0_4 w1 w2
  refine (chancellaw04_MarksHolds.calls k _ _ l0_0 _ _ l0_1 a0_2 a0_3 a0_4 a1 _ _ l2 true W hr0_0 hc0_0 hr0_1 hc0_1 hr2 hc2 h).mono fun e W' hpost => ?_
  obtain ⟨he, bel⟩ := hpost
  subst he
  exact ⟨_, rfl, _, _, _, [], _, [], hW', trodAll_mk1 (shut_bool Try.underlying4 _), (trodAll_cons_mk (Below.trod laidOut (by kernel_rfl) (of_decide_eq_true (by kernel_rfl)) k0' bel lt0) (trodAll_cons_mk (shut_int Try.underlying3 w1) (trodAll_cons_mk (Below.trod laidOut (by kernel_rfl) (of_decide_eq_true (by kernel_rfl)) k2' bel lt2) trodAll_mk0))), rfl, bel.frame _, fun h => by cases h⟩
theorem over : Rows.marksHoldsRow.holds Try.pinned (OpenSpec.ofChange Rows.marksHoldsSpec) :=
  OpenClaim.holds_of_wide 3 Try.f3 rfl rfl rfl rfl rfl rfl rfl ⟨rfl, rfl, rfl, rfl, rfl⟩ rfl rfl rfl rfl rfl (by kernel_rfl) Try.func3 (by kernel_rfl)
    (of_decide_eq_true (by kernel_rfl)) (by unfold Func.isWrapper; first | (rw [if_pos (by decide +kernel)]; kernel_rfl) | (rw [if_neg (by decide +kernel)]; exact ⟨rfl, rfl⟩))
    (fun os started H enc _ => lifted os started H enc)
theorem proved : Rows.MarksHoldsSaid := over
#print axioms proved
end Go.Proofs.Ytdgjjdpeaohebab.marksHolds
namespace Go.Proofs.Ytdgjjdpeaohebab
/-- The row, under a short name, for the claim. -/
theorem marksHolds_holds : Rows.MarksHoldsSaid := marksHolds.proved
end Go.Proofs.Ytdgjjdpeaohebab
