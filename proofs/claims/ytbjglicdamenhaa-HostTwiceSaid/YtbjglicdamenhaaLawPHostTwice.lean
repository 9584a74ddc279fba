-- Made by lawrow.py (mine): the one pure statement of HostTwice.
import Derived.Test.YtbjglicdamenhaaG90
import Derived.Test.YtbjglicdamenhaaOpen
namespace Go.Proofs.Ytbjglicdamenhaa.G
open Go.RowKit
def avocetlaw16_HostTwice.Pure : Prop := ∀ (l0 : List (S82)) (l1 : List (S40)), l0.length ≤ maxLen → (∀ x ∈ l0, Own.wf82 x) → l1.length ≤ maxLen → (∀ x ∈ l1, Own.wf40 x) → avocetlaw16_HostTwice.f l0 l1 = some true
end Go.Proofs.Ytbjglicdamenhaa.G
