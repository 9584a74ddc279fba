-- Made by lawrow.py (mine): the one pure statement of MemorySums.
import Derived.Test.YtffoolhfjomhhaaDoorG92
namespace Go.Proofs.YtffoolhfjomhhaaDoor.G
open Go.RowKit
def avocetlaw13_MemorySums.Pure : Prop := ∀ (a0 : Int) (a1 : Int) (l2 : List Int), (Lit.int .i64 a0).wf = true → (Lit.int .u8 a1).wf = true → l2.length ≤ maxLen → l2.length * 1 ≤ 140737488351232 → (∀ x ∈ l2, (Lit.int .u8 x).wf = true) → avocetlaw13_MemorySums.f a0 a1 l2 = some true
end Go.Proofs.YtffoolhfjomhhaaDoor.G
