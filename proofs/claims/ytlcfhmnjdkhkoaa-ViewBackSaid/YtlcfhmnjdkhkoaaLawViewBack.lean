/- The row of the law ViewBack out of its printed contract and its pure statement: for every input the law returns true and leaves its arguments as they were. Conditions: none beside the row's own. -/
import Derived.Test.YtlcfhmnjdkhkoaaRows
import Derived.Test.YtlcfhmnjdkhkoaaGViewBack
import Derived.Test.YtlcfhmnjdkhkoaaRd
import Derived.Test.YtlcfhmnjdkhkoaaPureViewBack
import Derived.WalkKit
import Derived.ProofKit
import Derived.OpenShut
import Derived.ShutString
import Derived.ChangeOld
import Derived.Below
import Derived.SizedLaws
namespace Go.Proofs.Ytlcfhmnjdkhkoaa.viewBack
open Go.ChangeShapes Go.WideShapes Go.ChangeAt Go.RowKit Go.Proofs.YtlcfhmnjdkhkoaaRd Go.Proofs.Ytlcfhmnjdkhkoaa.PViewBack Go.Proofs.YtlcfhmnjdkhkoaaW.PrintWords
open Go.ChangeMaps (open_string shut_string)
set_option linter.unusedVariables false
theorem own : ownKnob Try.prog.godebug = none := by kernel_rfl
theorem laidOut : laidOutB Try.prog = true := by kernel_rfl
theorem rd35 : Rds Try.prog k35 35 (fun x => (Lit.int .i64 x.f0).wf = true ∧ (Lit.int .i64 x.f1).wf = true ∧ (Lit.int .i64 x.f2).wf = true) := rds_imp (rds_iso (fun x : S35 => (x.f0, x.f1, x.f2, x.f3)) (fun p => ⟨p.1, p.2.1, p.2.2.1, p.2.2.2⟩) (fun _ => rfl) (rds_struct Try.underlying35 (rdf_cons (rds_int (P := Try.prog) (t := 3) Try.underlying3) rfl (by kernel_rfl) (rdf_cons (rds_int (P := Try.prog) (t := 3) Try.underlying3) rfl (by kernel_rfl) (rdf_cons (rds_int (P := Try.prog) (t := 3) Try.underlying3) rfl (by kernel_rfl) (rdf_one (rds_bool (P := Try.prog) (t := 4) Try.underlying4) rfl (by kernel_rfl))))) (by kernel_rfl))) (fun x h => ⟨h.1, h.2.1, h.2.2.1⟩)
theorem rd22 : Rds Try.prog (Kd.slice 35 (k35)) 22 (fun xs => xs.length * 32 ≤ 140737488351232 ∧ ∀ x ∈ xs, ((Lit.int .i64 x.f0).wf = true ∧ (Lit.int .i64 x.f1).wf = true ∧ (Lit.int .i64 x.f2).wf = true)) := rds_imp (rds_slice (z35) Try.underlying22 rd35 (by kernel_rfl) (by kernel_rfl)) (fun _ h => h)
theorem okWide_array32 {W : World} {r : Reach} {base : Nat} {v : Value} (h : Value.okWide Try.prog W r base 32 v) : ∃ cs, v = .agg cs ∧ cs.size = Try.prog.cellsOf 32 := by
  simp only [Value.okWide, Try.underlying32] at h
  obtain ⟨cs, h1, h2, _⟩ := h
  exact ⟨cs, h1, h2⟩
theorem arr2_int {H : Type} {enc : TypeId × Value → H} {P : Program} {w : World} {base : Nat} {sp : Nat → Bool} {held : Bool} {t e : TypeId} (ht : P.underlying t = some (.array 2 e)) (he : P.underlying e = some (.int .i64)) (hce : P.cellsOf e = 1) (hct : P.cellsOf t = 2)
    {v : Value} {d : DataW H} {p : List MemPlace} (h : DataW.Trod enc P w base sp held t v d p) : ∃ a b, v.cells.toList = [.int .i64 a, .int .i64 b] ∧ (Lit.int .i64 a).wf = true ∧ (Lit.int .i64 b).wf = true := by
  obtain ⟨m, h⟩ := h
  obtain ⟨xs, m, rfl, hx, hl, hn, hg⟩ := DataW.trod_array ht h
  rw [hct] at hl
  obtain ⟨c0, c1, hcs⟩ : ∃ c0 c1, v.cells.toList = [c0, c1] := by
    match hv : v.cells.toList, hl with
    | [a, b], _ => exact ⟨a, b, rfl⟩
  rw [hcs, hce] at hg
  obtain ⟨y0, y1, hy⟩ : ∃ y0 y1, xs = [y0, y1] := by
    match xs, hn with
    | [a, b], _ => exact ⟨a, b, rfl⟩
  subst hy
  have g0 := hg 0 (by decide)
  have g1 := hg 1 (by decide)
  obtain ⟨n0, e0, _, f0⟩ := DataW.trod_int he g0
  obtain ⟨n1, e1, _, f1⟩ := DataW.trod_int he g1
  simp at e0 e1
  exact ⟨n0, n1, by rw [hcs, e0, e1], f0, f1⟩
set_option maxRecDepth 100000 in
theorem lifted (os : Os) (started : os.Started) (H : Type) (enc : TypeId × Value → H) :
    ReturnsInHanded {} Try.checked os 5 .any (Rows.viewBackSpec.pre6 enc Try.prog Try.f5 Rows.viewBackRow.domain false) (Rows.viewBackSpec.post enc Try.prog Try.f5 false true false false) := by
  refine returnsInHanded_of_change_sized (C := Try.checked) own started (by kernel_rfl) Try.func5
    (ChangeSpec.witness6 (enc := enc) (C := Try.checked) false ⟨#[], #[.slice none 0 0, .int .i64 0, .agg #[.int .i64 0, .int .i64 0]], []⟩ 8 (by kernel_rfl) (by kernel_rfl) (by kernel_rfl) (by kernel_rfl)) ?_
  intro W base args ds gs before hval0 hW hcnd hsz0 _
  have hsz : (DataW.weightsEach Try.prog (Try.f5.params.toList ++ Rows.viewBackSpec.plain.varTypes Try.prog) (ds ++ gs)).all (· ≤ reachBytes) = true := hsz0
  have hval : ∀ (j : Nat) t v, Try.f5.params[j]? = some t → args[j]? = some v → Value.okWide Try.prog W .any base t v := hval0
  have hW' := hW
  obtain ⟨p, q, hA0, hV, rfl, hfz, hnd⟩ := hW
  have hA : DataW.TrodAll enc Try.prog W 0 (fun _ => true) true Try.f5.params.toList args.toList ds p := hA0
  rw [Try.params5] at hA hval hsz
  obtain ⟨v0, vs0, d0, ds0, p0, q0, hargs, rfl, rfl, h0, r0⟩ := trodAll_cons hA
  obtain ⟨v1, vs1, d1, ds1, p1, q1, rfl, rfl, rfl, h1, r1⟩ := trodAll_cons r0
  obtain ⟨v2, vs2, d2, ds2, p2, q2, rfl, rfl, rfl, h2, r2⟩ := trodAll_cons r1
  obtain ⟨rfl, rfl, rfl⟩ := trodAll_nil r2
  obtain rfl : args = #[v0, v1, v2] := by cases args; simp_all
  obtain ⟨rfl, rfl⟩ := trodVars_none hV
  have k0' := h0
  have lt0 : ∀ x ∈ p0, x.block < W.heap.size := by obtain ⟨m, hm⟩ := k0'; exact DataW.trod_lt m _ _ _ hm
  obtain ⟨l0, K0, w0⟩ := arg_of (j := 0) (t := 22) rd22 h0 hsz rfl rfl
  obtain ⟨A0, c0, rfl, hr0, hc0⟩ := arg_slice (okWide_slice Try.underlying22 (hval 0 22 v0 rfl rfl)) K0
  obtain ⟨a1, rfl, rfl, rfl, w1⟩ := open_int Try.underlying3 (hval 1 3 v1 rfl rfl) h1
  have k2' := h2
  have lt2 : ∀ x ∈ p2, x.block < W.heap.size := by obtain ⟨m, hm⟩ := k2'; exact DataW.trod_lt m _ _ _ hm
  obtain ⟨av2, rfl, _⟩ := okWide_array32 (hval 2 32 v2 rfl rfl)
  obtain ⟨i0, i1, e2, wi0, wi1⟩ := arr2_int (t := 32) (e := 3) Try.underlying32 Try.underlying3 (by kernel_rfl) (by kernel_rfl) h2
  obtain rfl : av2 = #[.int .i64 i0, .int .i64 i1] := by apply Array.ext'; exact e2
  clear hA0 hval0 hsz0 hsz
  obtain ⟨k, b, q1, q2, q3⟩ := Pure.ViewBack l0 a1 i0 i1 w0.1
  have main : Calls Try.prog 5 #[.slice A0 l0.length c0, .int .i64 a1, .agg #[.int .i64 i0, .int .i64 i1]] W fun e w' => e = .returned (.bool true) ∧ Below W.heap.size W w' := by
    cases b with
    | false => exact back_no k A0 c0 l0 a1 i0 i1 W hr0 hc0 q1 q2
    | true => exact back k A0 c0 l0 a1 i0 i1 W hr0 hc0 q1 q2 (q3 rfl).1 (fun x hx => (w0.2 x hx).1) wi0 (q3 rfl).2
  refine main.mono fun e W' hpost => ?_
  obtain ⟨he, bel⟩ := hpost
  subst he
  exact ⟨_, rfl, _, _, _, [], _, [], hW', trodAll_mk1 (shut_bool Try.underlying4 _), (trodAll_cons_mk (Below.trod laidOut (by kernel_rfl) (of_decide_eq_true (by kernel_rfl)) k0' bel lt0) (trodAll_cons_mk (shut_int Try.underlying3 w1) (trodAll_cons_mk (Below.trod laidOut (by kernel_rfl) (of_decide_eq_true (by kernel_rfl)) k2' bel lt2) trodAll_mk0))), rfl, bel.frame _, fun h => by cases h⟩
theorem over : Rows.viewBackRow.holds Try.pinned (OpenSpec.ofChange Rows.viewBackSpec) :=
  OpenClaim.holds_of_wide 5 Try.f5 rfl rfl rfl rfl rfl rfl rfl ⟨rfl, rfl, rfl, rfl, rfl⟩ rfl rfl rfl rfl rfl (by kernel_rfl) Try.func5 (by kernel_rfl)
    (of_decide_eq_true (by kernel_rfl)) (by unfold Func.isWrapper; first | (rw [if_pos (by decide +kernel)]; kernel_rfl) | (rw [if_neg (by decide +kernel)]; exact ⟨rfl, rfl⟩))
    (fun os started H enc _ => lifted os started H enc)
theorem proved : Rows.ViewBackSaid := over
#print axioms proved
end Go.Proofs.Ytlcfhmnjdkhkoaa.viewBack
namespace Go.Proofs.Ytlcfhmnjdkhkoaa
/-- The row, under a short name, for the claim. -/
theorem viewBack_holds : Rows.ViewBackSaid := viewBack.proved
end Go.Proofs.Ytlcfhmnjdkhkoaa
