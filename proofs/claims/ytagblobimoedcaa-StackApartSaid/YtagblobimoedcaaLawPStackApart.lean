-- Made by lawrow.py (mine): the one pure statement of StackApart.
import Derived.Test.YtagblobimoedcaaG94
import Derived.Test.YtagblobimoedcaaOpen
namespace Go.Proofs.Ytagblobimoedcaa.G
open Go.RowKit
def avocetlaw09_StackApart.Pure : Prop := ∀ (l0 : List (S47)) (l1 : List (S47)), l0.length ≤ maxLen → (∀ x ∈ l0, Own.wf47 x) → l1.length ≤ maxLen → (∀ x ∈ l1, Own.wf47 x) → avocetlaw09_StackApart.f l0 l1 = some true
end Go.Proofs.Ytagblobimoedcaa.G
