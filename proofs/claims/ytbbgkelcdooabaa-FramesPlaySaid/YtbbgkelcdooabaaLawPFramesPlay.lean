-- Made by lawrow.py (mine): the one pure statement of FramesPlay.
import Derived.Test.YtbbgkelcdooabaaG94
import Derived.Test.YtbbgkelcdooabaaOpen
namespace Go.Proofs.Ytbbgkelcdooabaa.G
open Go.RowKit
def avocetlaw17_FramesPlay.Pure : Prop := ∀ (a0 : Int) (l1 : List (S44)), (Lit.int .i64 a0).wf = true → l1.length ≤ maxLen → (∀ x ∈ l1, Own.wf44 x) → avocetlaw17_FramesPlay.f a0 l1 = some true
end Go.Proofs.Ytbbgkelcdooabaa.G
