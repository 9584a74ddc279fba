-- Made by lawrow.py (mine): the one pure statement of MemoryApart.
import Derived.Test.YtffoolhfjomhhaaDoorG91
namespace Go.Proofs.YtffoolhfjomhhaaDoor.G
open Go.RowKit
def avocetlaw13_MemoryApart.Pure : Prop := ∀ (a0 : Int) (l1 : List Int), (Lit.int .i64 a0).wf = true → l1.length ≤ maxLen → l1.length * 1 ≤ 140737488351232 → (∀ x ∈ l1, (Lit.int .u8 x).wf = true) → avocetlaw13_MemoryApart.f a0 l1 = some true
end Go.Proofs.YtffoolhfjomhhaaDoor.G
