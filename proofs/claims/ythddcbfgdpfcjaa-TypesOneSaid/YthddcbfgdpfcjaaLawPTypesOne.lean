-- Made by lawrow.py (mine): the one pure statement of TypesOne.
import Derived.Test.YthddcbfgdpfcjaaG5
namespace Go.Proofs.Ythddcbfgdpfcjaa.G
open Go.RowKit
def avocetlaw04_TypesOne.Pure : Prop := ∀ (l0_0 : List Int) (l0_1 : List Int) (l1_0 : List Int) (l1_1 : List Int), l0_0.length ≤ maxLen → (∀ x ∈ l0_0, (Lit.int .u8 x).wf = true) → l0_1.length ≤ maxLen → (∀ x ∈ l0_1, (Lit.int .u8 x).wf = true) → l1_0.length ≤ maxLen → (∀ x ∈ l1_0, (Lit.int .u8 x).wf = true) → l1_1.length ≤ maxLen → (∀ x ∈ l1_1, (Lit.int .u8 x).wf = true) → ∃ k, avocetlaw04_TypesOne.f k l0_0 l0_1 l1_0 l1_1 = some true
end Go.Proofs.Ythddcbfgdpfcjaa.G
