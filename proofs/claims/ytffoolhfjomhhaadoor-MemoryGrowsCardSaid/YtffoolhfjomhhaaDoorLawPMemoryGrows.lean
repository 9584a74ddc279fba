-- Made by lawrow.py (mine): the one pure statement of MemoryGrows.
import Derived.Test.YtffoolhfjomhhaaDoorG94
namespace Go.Proofs.YtffoolhfjomhhaaDoor.G
open Go.RowKit
def avocetlaw13_MemoryGrows.Pure : Prop := ∀ (a0_0 : Int) (a0_1 : Int) (a0_2 : Bool) (l1 : List Int) (l2 : List Int), (Lit.int .i64 a0_0).wf = true → (Lit.int .i64 a0_1).wf = true → l1.length ≤ maxLen → l1.length * 8 ≤ 140737488351232 → (∀ x ∈ l1, (Lit.int .i64 x).wf = true) → l2.length ≤ maxLen → l2.length * 1 ≤ 140737488351232 → (∀ x ∈ l2, (Lit.int .u8 x).wf = true) → avocetlaw13_MemoryGrows.f a0_0 a0_1 a0_2 l1 l2 = some true
end Go.Proofs.YtffoolhfjomhhaaDoor.G
