-- The words that the law's texts use, taken by a program of this session's own out of those that the kit's print has written for this seat.
import Derived.Test.YtlcfhmnjdkhkoaaDoorWInv
import Derived.Test.YtlcfhmnjdkhkoaaDoorWFootNe
namespace Go.Proofs.YtlcfhmnjdkhkoaaDoorW.PrintWords
open Go.RowKit
end Go.Proofs.YtlcfhmnjdkhkoaaDoorW.PrintWords
namespace Go.Proofs.YtlcfhmnjdkhkoaaDoorW.PrintLast
section
variable {ops : Array Oper} {a : Act} {o og : Oper} {g : Nat} {t : Tmp} {u : Bool}
end
end Go.Proofs.YtlcfhmnjdkhkoaaDoorW.PrintLast
