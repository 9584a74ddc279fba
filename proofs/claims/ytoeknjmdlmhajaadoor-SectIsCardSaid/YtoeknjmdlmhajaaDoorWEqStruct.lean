-- Out of the words that the kit prints for this seat: what this proof reaches of them (shake.py, mine).
import Derived.Test.YtoeknjmdlmhajaaDoorWWords
import Derived.Laws.StructEq
/-! ### 53. '==' of structs as_ one Bool -/
namespace Go.Proofs.YtoeknjmdlmhajaaDoorW.PrintWords
open Go.RowKit
section
variable {P : Program} {d : Nat} {xs ys : Array Value} {f : Field} {fs : List Field} {a b : Value} {r s : Bool} {w : World}
end
end Go.Proofs.YtoeknjmdlmhajaaDoorW.PrintWords
