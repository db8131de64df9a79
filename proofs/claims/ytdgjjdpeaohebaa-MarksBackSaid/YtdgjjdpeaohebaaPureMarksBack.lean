/- The pure law MarksBack: what the printed functions compute answers true. -/
import Derived.Test.YtdgjjdpeaohebaaGMD
namespace Go.Proofs.Ytdgjjdpeaohebaa.Pure
open Go.RowKit Go.Proofs.Ytdgjjdpeaohebaa.PMarksTake Go.Proofs.YtdgjjdpeaohebaaW.PrintWords Go.Proofs.YtdgjjdpeaohebaaW.PrintLast

theorem MarksBack : ∀ (l0_0 : List (S26)) (l0_1 : List (S38)) (a0_2 : Int) (a0_3 : Int) (a0_4 : Int) (a1 : Int), (l0_0.length * 24 ≤ 140737488351232 ∧ ∀ y ∈ l0_0, ((Lit.int .i64 y.f0).wf = true ∧ (Lit.int .i64 y.f1).wf = true ∧ (Lit.int .i64 y.f2).wf = true)) → (l0_1.length * 16 ≤ 140737488351232 ∧ ∀ y ∈ l0_1, ((Lit.int .i64 y.f0).wf = true ∧ (Lit.int .i64 y.f1).wf = true)) → (Lit.int .i64 a0_2).wf = true → (Lit.int .i64 a0_3).wf = true → (Lit.int .i64 a0_4).wf = true → (Lit.int .i64 a1).wf = true → ∃ k, chancellaw04_MarksBack.f k l0_0 l0_1 a0_2 a0_3 a0_4 a1 = some true :=
  fun xs ys _ _ _ _ hx hy _ _ _ _ => ⟨0, if_pos ⟨by have := hx.1; omega, by have := hy.1; omega⟩⟩

end Go.Proofs.Ytdgjjdpeaohebaa.Pure
