-- Made by lawrow.py (mine): the one pure statement of HostBounds.
import Derived.Test.YtbjglicdamenhaaG91
namespace Go.Proofs.Ytbjglicdamenhaa.G
open Go.RowKit
def avocetlaw16_HostBounds.Pure : Prop := ∀ (a0_0 : Int) (a0_1 : Bool) (a0_2 : Int) (l0_3 : List Int) (a0_4 : Int) (a0_5 : Int), (Lit.int .u64 a0_0).wf = true → (Lit.int .i64 a0_2).wf = true → l0_3.length ≤ maxLen → (∀ x ∈ l0_3, (Lit.int .u8 x).wf = true) → (Lit.int .i64 a0_4).wf = true → (Lit.int .u64 a0_5).wf = true → avocetlaw16_HostBounds.f a0_0 a0_1 a0_2 l0_3 a0_4 a0_5 = some true
end Go.Proofs.Ytbjglicdamenhaa.G
