-- Made by lawrow.py (mine): the one pure statement of SectFinds.
import Derived.Test.YtoeknjmdlmhajaaDoorG5
import Derived.Test.YtoeknjmdlmhajaaDoorOpen
namespace Go.Proofs.YtoeknjmdlmhajaaDoor.G
open Go.RowKit
def avocetlaw07_SectFinds.Pure : Prop := ∀ (l0 : List (S36)) (a1 : Int), l0.length ≤ maxLen → (∀ x ∈ l0, Own.wf36 x) → (Lit.int .i64 a1).wf = true → ∃ k, avocetlaw07_SectFinds.f k l0 a1 = some true
end Go.Proofs.YtoeknjmdlmhajaaDoor.G
