-- Made by lawrow.py (mine): the one pure statement of SectBack.
import Derived.Test.YtoeknjmdlmhajaaDoorG4
import Derived.Test.YtoeknjmdlmhajaaDoorOpen
namespace Go.Proofs.YtoeknjmdlmhajaaDoor.G
open Go.RowKit
def avocetlaw07_SectBack.Pure : Prop := ∀ (l0 : List (S36)), l0.length ≤ maxLen → (∀ x ∈ l0, Own.wf36 x) → ∃ k, avocetlaw07_SectBack.f k l0 = some true
end Go.Proofs.YtoeknjmdlmhajaaDoor.G
