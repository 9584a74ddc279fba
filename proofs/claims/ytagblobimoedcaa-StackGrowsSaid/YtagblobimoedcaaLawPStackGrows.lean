-- Made by lawrow.py (mine): the one pure statement of StackGrows.
import Derived.Test.YtagblobimoedcaaG90
import Derived.Test.YtagblobimoedcaaOpen
namespace Go.Proofs.Ytagblobimoedcaa.G
open Go.RowKit
def avocetlaw09_StackGrows.Pure : Prop := ∀ (l0 : List (S47)), l0.length ≤ maxLen → (∀ x ∈ l0, Own.wf47 x) → avocetlaw09_StackGrows.f l0 = some true
end Go.Proofs.Ytagblobimoedcaa.G
