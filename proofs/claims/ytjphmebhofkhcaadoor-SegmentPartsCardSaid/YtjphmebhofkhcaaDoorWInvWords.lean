-- What the law's texts use, taken by a program of this session's own out of a text that the kit's print has written for this seat.
import Derived.Test.YtjphmebhofkhcaaDoorWInv
import Derived.Test.YtjphmebhofkhcaaDoorWFootNe
namespace Go.Proofs.YtjphmebhofkhcaaDoorW.PrintWords
open Go.RowKit
end Go.Proofs.YtjphmebhofkhcaaDoorW.PrintWords
namespace Go.Proofs.YtjphmebhofkhcaaDoorW.PrintLast
section
variable {ops : Array Oper} {a : Act} {o og : Oper} {g : Nat} {t : Tmp} {u : Bool}
end
end Go.Proofs.YtjphmebhofkhcaaDoorW.PrintLast
