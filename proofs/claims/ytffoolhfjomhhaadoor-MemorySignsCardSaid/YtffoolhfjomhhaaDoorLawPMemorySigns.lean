-- Made by lawrow.py (mine): the one pure statement of MemorySigns.
import Derived.Test.YtffoolhfjomhhaaDoorG90
namespace Go.Proofs.YtffoolhfjomhhaaDoor.G
open Go.RowKit
def avocetlaw13_MemorySigns.Pure : Prop := ∀ (a0 : Int) (a1 : Int) (a2 : Int), (Lit.int .u64 a0).wf = true → (Lit.int .u64 a1).wf = true → (Lit.int .i64 a2).wf = true → avocetlaw13_MemorySigns.f a0 a1 a2 = some true
end Go.Proofs.YtffoolhfjomhhaaDoor.G
