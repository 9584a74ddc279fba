-- Made by lawrow.py (mine): the one pure statement of FramesRoom.
import Derived.Test.YtbbgkelcdooabaaG90
namespace Go.Proofs.Ytbbgkelcdooabaa.G
open Go.RowKit
def avocetlaw17_FramesRoom.Pure : Prop := ∀ (a0 : Int) (l1 : List Int), (Lit.int .i64 a0).wf = true → l1.length ≤ maxLen → l1.length * 8 ≤ 140737488351232 → (∀ x ∈ l1, (Lit.int .u64 x).wf = true) → avocetlaw17_FramesRoom.f a0 l1 = some true
end Go.Proofs.Ytbbgkelcdooabaa.G
