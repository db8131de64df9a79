-- The words that the law's texts use, taken by a program of this session's own out of those that the kit's print has written for this seat.
import Derived.Test.YtdgjjdpeaohebabWInv
import Derived.Test.YtdgjjdpeaohebabWFootNe
namespace Go.Proofs.YtdgjjdpeaohebabW.PrintWords
open Go.RowKit
end Go.Proofs.YtdgjjdpeaohebabW.PrintWords
namespace Go.Proofs.YtdgjjdpeaohebabW.PrintLast
section
variable {ops : Array Oper} {a : Act} {o og : Oper} {g : Nat} {t : Tmp} {u : Bool}
end
end Go.Proofs.YtdgjjdpeaohebabW.PrintLast
