-- The words that the law's texts use, taken by a program of this session's own out of those that the kit's print has written for this seat.
import Derived.Test.YtdgjjdpeaohebaaWInv
import Derived.Test.YtdgjjdpeaohebaaWFootNe
namespace Go.Proofs.YtdgjjdpeaohebaaW.PrintWords
open Go.RowKit
end Go.Proofs.YtdgjjdpeaohebaaW.PrintWords
namespace Go.Proofs.YtdgjjdpeaohebaaW.PrintLast
section
variable {ops : Array Oper} {a : Act} {o og : Oper} {g : Nat} {t : Tmp} {u : Bool}
end
end Go.Proofs.YtdgjjdpeaohebaaW.PrintLast
