-- The words that the law's texts use, taken by a program of this session's own out of those that the kit's print has written for this seat.
import Derived.Test.YtkkjebjlgcggcaaDoorWInv
import Derived.Test.YtkkjebjlgcggcaaDoorWFootNe
namespace Go.Proofs.YtkkjebjlgcggcaaDoorW.PrintWords
open Go.RowKit
end Go.Proofs.YtkkjebjlgcggcaaDoorW.PrintWords
namespace Go.Proofs.YtkkjebjlgcggcaaDoorW.PrintLast
section
variable {ops : Array Oper} {a : Act} {o og : Oper} {g : Nat} {t : Tmp} {u : Bool}
end
end Go.Proofs.YtkkjebjlgcggcaaDoorW.PrintLast
