-- Made by lawrow.py (mine): the one pure statement of MemoryBack.
import Derived.Test.YtffoolhfjomhhaaDoorG93
namespace Go.Proofs.YtffoolhfjomhhaaDoor.G
open Go.RowKit
def avocetlaw13_MemoryBack.Pure : Prop := ∀ (a0 : Int) (a1 : Int) (a2 : Int) (a3 : Int) (l4 : List Int), (Lit.int .i64 a0).wf = true → (Lit.int .u64 a1).wf = true → (Lit.int .u64 a2).wf = true → (Lit.int .u64 a3).wf = true → l4.length ≤ maxLen → l4.length * 1 ≤ 140737488351232 → (∀ x ∈ l4, (Lit.int .u8 x).wf = true) → avocetlaw13_MemoryBack.f a0 a1 a2 a3 l4 = some true
end Go.Proofs.YtffoolhfjomhhaaDoor.G
