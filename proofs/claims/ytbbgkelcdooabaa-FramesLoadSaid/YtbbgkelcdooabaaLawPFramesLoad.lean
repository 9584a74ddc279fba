-- Made by lawrow.py (mine): the one pure statement of FramesLoad.
import Derived.Test.YtbbgkelcdooabaaG95
import Derived.Test.YtbbgkelcdooabaaOpen
namespace Go.Proofs.Ytbbgkelcdooabaa.G
open Go.RowKit
def avocetlaw17_FramesLoad.Pure : Prop := ∀ (a0 : Int) (l1 : List (S44)) (l2 : List (S61)) (l3 : List Int), (Lit.int .i64 a0).wf = true → l1.length ≤ maxLen → (∀ x ∈ l1, Own.wf44 x) → l2.length ≤ maxLen → (∀ x ∈ l2, Own.wf61 x) → l3.length ≤ maxLen → l3.length * 8 ≤ 140737488351232 → (∀ x ∈ l3, (Lit.int .u64 x).wf = true) → avocetlaw17_FramesLoad.f a0 l1 l2 l3 = some true
end Go.Proofs.Ytbbgkelcdooabaa.G
