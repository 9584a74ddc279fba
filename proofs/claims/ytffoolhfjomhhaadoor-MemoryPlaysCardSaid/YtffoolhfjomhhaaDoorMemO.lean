/- A memory as an object: what its variable and its bytes hold. -/
import Derived.Test.YtffoolhfjomhhaaDoorHold
import Derived.Test.YtffoolhfjomhhaaDoorMemP
namespace Go.Proofs.YtffoolhfjomhhaaDoor.G
open Go.RowKit Go.Proofs.YtffoolhfjomhhaaDoorW.PrintWords Go.Proofs.YtffoolhfjomhhaaDoorW.PrintLast Go.Proofs.YtffoolhfjomhhaaDoorW.PrintMore
set_option linter.unusedVariables false
/-- A memory: its bytes, its limits. -/
structure Mem where
  b : List Int
  lo : Int
  hi : Int
  has : Bool
end Go.Proofs.YtffoolhfjomhhaaDoor.G
