/- The pure law MarksHolds: what the printed functions compute answers true. -/
import Derived.Test.YtdgjjdpeaohebabGMD
namespace Go.Proofs.Ytdgjjdpeaohebab.Pure
open Go.RowKit Go.Proofs.Ytdgjjdpeaohebab.PMarksHolds Go.Proofs.YtdgjjdpeaohebabW.PrintWords Go.Proofs.YtdgjjdpeaohebabW.PrintLast

theorem MarksHolds : ∀ (l0_0 : List (S34)) (l0_1 : List (S48)) (a0_2 : Int) (a0_3 : Int) (a0_4 : Int) (a1 : Int) (l2 : List (S38)), (l0_0.length * 24 ≤ 140737488351232 ∧ ∀ y ∈ l0_0, ((Lit.int .i64 y.f0).wf = true ∧ (Lit.int .i64 y.f1).wf = true ∧ (Lit.int .i64 y.f2).wf = true)) → (l0_1.length * 16 ≤ 140737488351232 ∧ ∀ y ∈ l0_1, ((Lit.int .i64 y.f0).wf = true ∧ (Lit.int .i64 y.f1).wf = true)) → (Lit.int .i64 a0_2).wf = true → (Lit.int .i64 a0_3).wf = true → (Lit.int .i64 a0_4).wf = true → (Lit.int .i64 a1).wf = true → (l2.length * 32 ≤ 140737488351232 ∧ ∀ y ∈ l2, ((Lit.int .i64 y.f0).wf = true ∧ (Lit.int .i64 y.f1).wf = true ∧ (Lit.int .i64 y.f2).wf = true ∧ (Lit.int .i64 y.f3).wf = true)) → ∃ k, chancellaw04_MarksHolds.f k l0_0 l0_1 a0_2 a0_3 a0_4 a1 l2 = some true :=
  fun xs ys _ _ _ _ ts hx hy _ _ _ _ ht => ⟨0, if_pos ⟨by have := hx.1; omega, by have := hy.1; omega, by have := ht.1; omega⟩⟩

end Go.Proofs.Ytdgjjdpeaohebab.Pure
