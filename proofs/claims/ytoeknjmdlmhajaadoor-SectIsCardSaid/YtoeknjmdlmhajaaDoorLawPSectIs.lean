-- Made by lawrow.py (mine): the one pure statement of SectIs.
import Derived.Test.YtoeknjmdlmhajaaDoorG9
import Derived.Test.YtoeknjmdlmhajaaDoorOpen
namespace Go.Proofs.YtoeknjmdlmhajaaDoor.G
open Go.RowKit
def avocetlaw07_SectIs.Pure : Prop := ∀ (l0 : List Int) (l1 : List (S36)) (a2 : Int) (a3 : ByteArray) (l4 : List Int), l0.length ≤ maxLen → l0.length * 1 ≤ 140737488351232 → (∀ x ∈ l0, (Lit.int .u8 x).wf = true) → l1.length ≤ maxLen → (∀ x ∈ l1, Own.wf36 x) → (Lit.int .i64 a2).wf = true → a3.size ≤ 140737488351232 → l4.length ≤ maxLen → l4.length * 1 ≤ 140737488351232 → (∀ x ∈ l4, (Lit.int .u8 x).wf = true) → ∃ k, avocetlaw07_SectIs.f k l0 l1 a2 a3 l4 = some true
end Go.Proofs.YtoeknjmdlmhajaaDoor.G
