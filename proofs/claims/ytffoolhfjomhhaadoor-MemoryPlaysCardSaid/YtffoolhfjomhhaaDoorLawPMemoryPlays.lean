-- Made by lawrow.py (mine): the one pure statement of MemoryPlays.
import Derived.Test.YtffoolhfjomhhaaDoorG95
import Derived.Test.YtffoolhfjomhhaaDoorOpen
namespace Go.Proofs.YtffoolhfjomhhaaDoor.G
open Go.RowKit
def avocetlaw13_MemoryPlays.Pure : Prop := ∀ (a0_0 : Int) (a0_1 : Int) (a0_2 : Bool) (l1 : List (S57)), (Lit.int .i64 a0_0).wf = true → (Lit.int .i64 a0_1).wf = true → l1.length ≤ maxLen → (∀ x ∈ l1, Own.wf57 x) → avocetlaw13_MemoryPlays.f a0_0 a0_1 a0_2 l1 = some true
end Go.Proofs.YtffoolhfjomhhaaDoor.G
