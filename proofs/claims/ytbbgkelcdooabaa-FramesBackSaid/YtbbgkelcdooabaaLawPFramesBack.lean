-- Made by lawrow.py (mine): the one pure statement of FramesBack.
import Derived.Test.YtbbgkelcdooabaaG93
import Derived.Test.YtbbgkelcdooabaaOpen
namespace Go.Proofs.Ytbbgkelcdooabaa.G
open Go.RowKit
def avocetlaw17_FramesBack.Pure : Prop := ∀ (l0 : List (S44)) (l1 : List (S44)), l0.length ≤ maxLen → (∀ x ∈ l0, Own.wf44 x) → l1.length ≤ maxLen → (∀ x ∈ l1, Own.wf44 x) → avocetlaw17_FramesBack.f l0 l1 = some true
end Go.Proofs.Ytbbgkelcdooabaa.G
