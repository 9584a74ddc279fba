-- Made by lawrow.py (mine): the one pure statement of StackLabels.
import Derived.Test.YtagblobimoedcaaG91
import Derived.Test.YtagblobimoedcaaOpen
namespace Go.Proofs.Ytagblobimoedcaa.G
open Go.RowKit
def avocetlaw09_StackLabels.Pure : Prop := ∀ (l0 : List (S47)) (a1 : Int), l0.length ≤ maxLen → (∀ x ∈ l0, Own.wf47 x) → (Lit.int .i64 a1).wf = true → avocetlaw09_StackLabels.f l0 a1 = some true
end Go.Proofs.Ytagblobimoedcaa.G
