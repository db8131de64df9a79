-- What the law's texts use, taken by a program of this session's own out of a text that the kit's print has written for this seat.
import Derived.Test.YtjphmebhofkhcaaDoorWTab
/-! ### 56. Four, five, six operations that may come up next, in any order -/
namespace Go.Proofs.YtjphmebhofkhcaaDoorW.PrintLast
section
variable {P : Program} {ops : Array Oper} {Q : Exit → Act → World → Prop} {md : Region.Mode} {S : World → Prop} {ds : List Nat} {T : Bool × List (List Nat × List Nat)}
end
end Go.Proofs.YtjphmebhofkhcaaDoorW.PrintLast
