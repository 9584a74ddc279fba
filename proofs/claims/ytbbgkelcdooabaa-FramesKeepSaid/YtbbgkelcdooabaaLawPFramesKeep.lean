-- Made by lawrow.py (mine): the one pure statement of FramesKeep.
import Derived.Test.YtbbgkelcdooabaaG92
import Derived.Test.YtbbgkelcdooabaaOpen
namespace Go.Proofs.Ytbbgkelcdooabaa.G
open Go.RowKit
def avocetlaw17_FramesKeep.Pure : Prop := ∀ (l0 : List (S44)) (l1 : List Int) (l2 : List (S44)), l0.length ≤ maxLen → (∀ x ∈ l0, Own.wf44 x) → l1.length ≤ maxLen → l1.length * 8 ≤ 140737488351232 → (∀ x ∈ l1, (Lit.int .u64 x).wf = true) → l2.length ≤ maxLen → (∀ x ∈ l2, Own.wf44 x) → avocetlaw17_FramesKeep.f l0 l1 l2 = some true
end Go.Proofs.Ytbbgkelcdooabaa.G
