-- Made by lawrow.py (mine): the one pure statement of TypesBack.
import Derived.Test.YthddcbfgdpfcjaaG8
namespace Go.Proofs.Ythddcbfgdpfcjaa.G
open Go.RowKit
def avocetlaw04_TypesBack.Pure : Prop := ∀ (l0 : List Int) (l1_0 : List Int) (l1_1 : List Int) (a2_0 : Int) (a2_1 : Int) (a2_2 : Bool), l0.length ≤ maxLen → l0.length * 1 ≤ 140737488351232 → (∀ x ∈ l0, (Lit.int .u8 x).wf = true) → l1_0.length ≤ maxLen → (∀ x ∈ l1_0, (Lit.int .u8 x).wf = true) → l1_1.length ≤ maxLen → (∀ x ∈ l1_1, (Lit.int .u8 x).wf = true) → (Lit.int .i64 a2_0).wf = true → (Lit.int .i64 a2_1).wf = true → ∃ k, avocetlaw04_TypesBack.f k l0 l1_0 l1_1 a2_0 a2_1 a2_2 = some true
end Go.Proofs.Ythddcbfgdpfcjaa.G
