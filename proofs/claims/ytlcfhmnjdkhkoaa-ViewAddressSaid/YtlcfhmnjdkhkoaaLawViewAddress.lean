/- The row of the law ViewAddress out of its printed contract and its pure statement: for every input the law returns true and leaves its arguments as they were. Conditions: none beside the row's own. -/
import Derived.Test.YtlcfhmnjdkhkoaaRows
import Derived.Test.YtlcfhmnjdkhkoaaPViewAddressx2
import Derived.Test.YtlcfhmnjdkhkoaaRd
import Derived.Test.YtlcfhmnjdkhkoaaPureViewAddress
import Derived.WalkKit
import Derived.ProofKit
import Derived.OpenShut
import Derived.ShutString
import Derived.ChangeOld
import Derived.Below
import Derived.SizedLaws
namespace Go.Proofs.Ytlcfhmnjdkhkoaa.viewAddress
open Go.ChangeShapes Go.WideShapes Go.ChangeAt Go.RowKit Go.Proofs.YtlcfhmnjdkhkoaaRd Go.Proofs.Ytlcfhmnjdkhkoaa.PViewAddress Go.Proofs.YtlcfhmnjdkhkoaaW.PrintWords
open Go.ChangeMaps (open_string shut_string)
set_option linter.unusedVariables false
theorem own : ownKnob Try.prog.godebug = none := by kernel_rfl
theorem laidOut : laidOutB Try.prog = true := by kernel_rfl
theorem rd35 : Rds Try.prog k35 35 (fun x => (Lit.int .i64 x.f0).wf = true ∧ (Lit.int .i64 x.f1).wf = true ∧ (Lit.int .i64 x.f2).wf = true) := rds_imp (rds_iso (fun x : S35 => (x.f0, x.f1, x.f2, x.f3)) (fun p => ⟨p.1, p.2.1, p.2.2.1, p.2.2.2⟩) (fun _ => rfl) (rds_struct Try.underlying35 (rdf_cons (rds_int (P := Try.prog) (t := 3) Try.underlying3) rfl (by kernel_rfl) (rdf_cons (rds_int (P := Try.prog) (t := 3) Try.underlying3) rfl (by kernel_rfl) (rdf_cons (rds_int (P := Try.prog) (t := 3) Try.underlying3) rfl (by kernel_rfl) (rdf_one (rds_bool (P := Try.prog) (t := 4) Try.underlying4) rfl (by kernel_rfl))))) (by kernel_rfl))) (fun x h => ⟨h.1, h.2.1, h.2.2.1⟩)
theorem rd22 : Rds Try.prog (Kd.slice 35 (k35)) 22 (fun xs => xs.length * 32 ≤ 140737488351232 ∧ ∀ x ∈ xs, ((Lit.int .i64 x.f0).wf = true ∧ (Lit.int .i64 x.f1).wf = true ∧ (Lit.int .i64 x.f2).wf = true)) := rds_imp (rds_slice (z35) Try.underlying22 rd35 (by kernel_rfl) (by kernel_rfl)) (fun _ h => h)
set_option maxRecDepth 100000 in
theorem lifted (os : Os) (started : os.Started) (H : Type) (enc : TypeId × Value → H) :
    ReturnsInHanded {} Try.checked os 4 .any (Rows.viewAddressSpec.pre6 enc Try.prog Try.f4 Rows.viewAddressRow.domain false) (Rows.viewAddressSpec.post enc Try.prog Try.f4 false true false false) := by
  refine returnsInHanded_of_change_sized (C := Try.checked) own started (by kernel_rfl) Try.func4
    (ChangeSpec.witness6 (enc := enc) (C := Try.checked) false ⟨#[], #[.slice none 0 0, .int .i64 0], []⟩ 8 (by kernel_rfl) (by kernel_rfl) (by kernel_rfl) (by kernel_rfl)) ?_
  intro W base args ds gs before hval0 hW hcnd hsz0 _
  have hsz : (DataW.weightsEach Try.prog (Try.f4.params.toList ++ Rows.viewAddressSpec.plain.varTypes Try.prog) (ds ++ gs)).all (· ≤ reachBytes) = true := hsz0
  have hval : ∀ (j : Nat) t v, Try.f4.params[j]? = some t → args[j]? = some v → Value.okWide Try.prog W .any base t v := hval0
  have hW' := hW
  obtain ⟨p, q, hA0, hV, rfl, hfz, hnd⟩ := hW
  have hA : DataW.TrodAll enc Try.prog W 0 (fun _ => true) true Try.f4.params.toList args.toList ds p := hA0
  rw [Try.params4] at hA hval hsz
  obtain ⟨v0, vs0, d0, ds0, p0, q0, hargs, rfl, rfl, h0, r0⟩ := trodAll_cons hA
  obtain ⟨v1, vs1, d1, ds1, p1, q1, rfl, rfl, rfl, h1, r1⟩ := trodAll_cons r0
  obtain ⟨rfl, rfl, rfl⟩ := trodAll_nil r1
  obtain rfl : args = #[v0, v1] := by cases args; simp_all
  obtain ⟨rfl, rfl⟩ := trodVars_none hV
  have k0' := h0
  have lt0 : ∀ x ∈ p0, x.block < W.heap.size := by obtain ⟨m, hm⟩ := k0'; exact DataW.trod_lt m _ _ _ hm
  obtain ⟨l0, K0, w0⟩ := arg_of (j := 0) (t := 22) rd22 h0 hsz rfl rfl
  obtain ⟨A0, c0, rfl, hr0, hc0⟩ := arg_slice (okWide_slice Try.underlying22 (hval 0 22 v0 rfl rfl)) K0
  obtain ⟨a1, rfl, rfl, rfl, w1⟩ := open_int Try.underlying3 (hval 1 3 v1 rfl rfl) h1
  clear hA0 hval0 hsz0 hsz
  obtain ⟨k, h⟩ := Pure.ViewAddress l0 a1 w0 w1
  refine (chancellaw08_ViewAddress.calls k _ _ l0 a1 true W hr0 hc0 h).mono fun e W' hpost => ?_
  obtain ⟨he, bel⟩ := hpost
  subst he
  exact ⟨_, rfl, _, _, _, [], _, [], hW', trodAll_mk1 (shut_bool Try.underlying4 _), (trodAll_cons_mk (Below.trod laidOut (by kernel_rfl) (of_decide_eq_true (by kernel_rfl)) k0' bel lt0) (trodAll_cons_mk (shut_int Try.underlying3 w1) trodAll_mk0)), rfl, bel.frame _, fun h => by cases h⟩
theorem over : Rows.viewAddressRow.holds Try.pinned (OpenSpec.ofChange Rows.viewAddressSpec) :=
  OpenClaim.holds_of_wide 4 Try.f4 rfl rfl rfl rfl rfl rfl rfl ⟨rfl, rfl, rfl, rfl, rfl⟩ rfl rfl rfl rfl rfl (by kernel_rfl) Try.func4 (by kernel_rfl)
    (of_decide_eq_true (by kernel_rfl)) (by unfold Func.isWrapper; first | (rw [if_pos (by decide +kernel)]; kernel_rfl) | (rw [if_neg (by decide +kernel)]; exact ⟨rfl, rfl⟩))
    (fun os started H enc _ => lifted os started H enc)
theorem proved : Rows.ViewAddressSaid := over
#print axioms proved
end Go.Proofs.Ytlcfhmnjdkhkoaa.viewAddress
namespace Go.Proofs.Ytlcfhmnjdkhkoaa
/-- The row, under a short name, for the claim. -/
theorem viewAddress_holds : Rows.ViewAddressSaid := viewAddress.proved
end Go.Proofs.Ytlcfhmnjdkhkoaa
