-- The words that the law's texts use, taken by a program of this session's own out of those that the kit's print has written for this seat.
import Derived.Test.YtdgjjdpeaohebabWWords
import Derived.Laws.StructEq
/-! ### 53. '==' of structs as_ one Bool -/
namespace Go.Proofs.YtdgjjdpeaohebabW.PrintWords
open Go.RowKit
section
variable {P : Program} {d : Nat} {xs ys : Array Value} {f : Field} {fs : List Field} {a b : Value} {r s : Bool} {w : World}
end
end Go.Proofs.YtdgjjdpeaohebabW.PrintWords
