-- Made by lawrow.py (mine): the one pure statement of StackBack.
import Derived.Test.YtagblobimoedcaaG93
import Derived.Test.YtagblobimoedcaaOpen
namespace Go.Proofs.Ytagblobimoedcaa.G
open Go.RowKit
def avocetlaw09_StackBack.Pure : Prop := ∀ (l0 : List (S47)) (l1 : List Int) (a2 : Int), l0.length ≤ maxLen → (∀ x ∈ l0, Own.wf47 x) → l1.length ≤ maxLen → l1.length * 1 ≤ 140737488351232 → (∀ x ∈ l1, (Lit.int .u8 x).wf = true) → (Lit.int .i64 a2).wf = true → avocetlaw09_StackBack.f l0 l1 a2 = some true
end Go.Proofs.Ytagblobimoedcaa.G
