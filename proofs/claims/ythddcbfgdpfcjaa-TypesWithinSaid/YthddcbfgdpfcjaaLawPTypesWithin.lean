-- Made by lawrow.py (mine): the one pure statement of TypesWithin.
import Derived.Test.YthddcbfgdpfcjaaG4
namespace Go.Proofs.Ythddcbfgdpfcjaa.G
open Go.RowKit
def avocetlaw04_TypesWithin.Pure : Prop := ∀ (a0_0 : Int) (a0_1 : Int) (a0_2 : Bool) (a1_0 : Int) (a1_1 : Int) (a1_2 : Bool) (a2_0 : Int) (a2_1 : Int) (a2_2 : Bool), (Lit.int .i64 a0_0).wf = true → (Lit.int .i64 a0_1).wf = true → (Lit.int .i64 a1_0).wf = true → (Lit.int .i64 a1_1).wf = true → (Lit.int .i64 a2_0).wf = true → (Lit.int .i64 a2_1).wf = true → ∃ k, avocetlaw04_TypesWithin.f k a0_0 a0_1 a0_2 a1_0 a1_1 a1_2 a2_0 a2_1 a2_2 = some true
end Go.Proofs.Ythddcbfgdpfcjaa.G
