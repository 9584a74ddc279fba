-- Made by lawrow.py (mine): the one pure statement of SectCustom.
import Derived.Test.YtoeknjmdlmhajaaDoorG5
import Derived.Test.YtoeknjmdlmhajaaDoorOpen
namespace Go.Proofs.YtoeknjmdlmhajaaDoor.G
open Go.RowKit
def avocetlaw07_SectCustom.Pure : Prop := ∀ (l0 : List (S36)) (a1 : Int) (a2 : ByteArray) (l3 : List Int), l0.length ≤ maxLen → (∀ x ∈ l0, Own.wf36 x) → (Lit.int .i64 a1).wf = true → a2.size ≤ 140737488351232 → l3.length ≤ maxLen → l3.length * 1 ≤ 140737488351232 → (∀ x ∈ l3, (Lit.int .u8 x).wf = true) → ∃ k, avocetlaw07_SectCustom.f k l0 a1 a2 l3 = some true
end Go.Proofs.YtoeknjmdlmhajaaDoor.G
