-- Made by lawrow.py (mine): the one pure statement of FramesLocals.
import Derived.Test.YtbbgkelcdooabaaG91
namespace Go.Proofs.Ytbbgkelcdooabaa.G
open Go.RowKit
def avocetlaw17_FramesLocals.Pure : Prop := ∀ (l0 : List Int) (a1 : Int) (l2 : List Int) (a3 : Int), l0.length ≤ maxLen → l0.length * 8 ≤ 140737488351232 → (∀ x ∈ l0, (Lit.int .u64 x).wf = true) → (Lit.int .i64 a1).wf = true → l2.length ≤ maxLen → l2.length * 8 ≤ 140737488351232 → (∀ x ∈ l2, (Lit.int .i64 x).wf = true) → (Lit.int .u64 a3).wf = true → avocetlaw17_FramesLocals.f l0 a1 l2 a3 = some true
end Go.Proofs.Ytbbgkelcdooabaa.G
