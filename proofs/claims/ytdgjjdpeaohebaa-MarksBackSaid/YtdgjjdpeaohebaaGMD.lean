/- Marks: the law MarksBack's contract in the printed shape, for its row. Conditions: none beside the row's. -/
import Derived.Test.YtdgjjdpeaohebaaGMC
namespace Go.Proofs.Ytdgjjdpeaohebaa.PMarksTake
open Go.RowKit Go.Proofs.YtdgjjdpeaohebaaW.PrintWords Go.Proofs.YtdgjjdpeaohebaaW.PrintLast Go.Proofs.YtdgjjdpeaohebaaW.PrintMore
set_option linter.unusedVariables false
def chancellaw04_MarksBack.f (k : Nat) (l0_0 : List (S26)) (l0_1 : List (S38)) (a0_2 : Int) (a0_3 : Int) (a0_4 : Int) (a1 : Int) : Option (Bool) := if l0_0.length ≤ 8796093022208 ∧ l0_1.length ≤ 8796093022208 then some true else none
theorem chancellaw04_MarksBack.calls (k : Nat) (A0_0 : Option Addr) (c0_0 : Nat) (l0_0 : List (S26)) (A0_1 : Option Addr) (c0_1 : Nat) (l0_1 : List (S38)) (a0_2 : Int) (a0_3 : Int) (a0_4 : Int) (a1 : Int) (r : Bool) (w : World) (hr0_0 : Kd.C k26 w A0_0 l0_0.length l0_0) (hc0_0 : l0_0.length ≤ c0_0) (hr0_1 : Kd.C k38 w A0_1 l0_1.length l0_1) (hc0_1 : l0_1.length ≤ c0_1) (h : chancellaw04_MarksBack.f k l0_0 l0_1 a0_2 a0_3 a0_4 a1 = some r) :
  Calls Try.prog 8 #[.agg #[.slice A0_0 l0_0.length c0_0, .slice A0_1 l0_1.length c0_1, .int .i64 a0_2, .int .i64 a0_3, .int .i64 a0_4], .int .i64 a1] w fun e w' => e = .returned (.bool r) ∧ Below w.heap.size w w' := by
 unfold chancellaw04_MarksBack.f at h
 split at h
 ·next hl =>
  injection h with h
  subst h
  exact Go.Proofs.Ytdgjjdpeaohebaa.Mk.marksBack_walk A0_0 c0_0 l0_0 A0_1 c0_1 l0_1 a0_2 a0_3 a0_4 a1 w hr0_0 hc0_0 hr0_1 hc0_1 hl.1 hl.2
 ·cases h
end Go.Proofs.Ytdgjjdpeaohebaa.PMarksTake
