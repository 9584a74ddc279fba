-- Out of the words that the kit prints for this seat: what this proof reaches of them (shake.py, mine).
import Derived.Test.YtoeknjmdlmhajaaDoorWInv
import Derived.Test.YtoeknjmdlmhajaaDoorWFootNe
namespace Go.Proofs.YtoeknjmdlmhajaaDoorW.PrintWords
open Go.RowKit
end Go.Proofs.YtoeknjmdlmhajaaDoorW.PrintWords
namespace Go.Proofs.YtoeknjmdlmhajaaDoorW.PrintLast
section
variable {ops : Array Oper} {a : Act} {o og : Oper} {g : Nat} {t : Tmp} {u : Bool}
end
end Go.Proofs.YtoeknjmdlmhajaaDoorW.PrintLast
