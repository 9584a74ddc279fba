-- Out of the words that the kit prints for this seat: what this proof reaches of them (shake.py, mine).
import Derived.Test.YthddcbfgdpfcjaaWInv
import Derived.Test.YthddcbfgdpfcjaaWFootNe
namespace Go.Proofs.YthddcbfgdpfcjaaW.PrintWords
open Go.RowKit
end Go.Proofs.YthddcbfgdpfcjaaW.PrintWords
namespace Go.Proofs.YthddcbfgdpfcjaaW.PrintLast
section
variable {ops : Array Oper} {a : Act} {o og : Oper} {g : Nat} {t : Tmp} {u : Bool}
end
end Go.Proofs.YthddcbfgdpfcjaaW.PrintLast
