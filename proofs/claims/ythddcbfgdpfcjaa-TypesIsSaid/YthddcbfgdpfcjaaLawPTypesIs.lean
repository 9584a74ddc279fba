-- Made by lawrow.py (mine): the one pure statement of TypesIs.
import Derived.Test.YthddcbfgdpfcjaaG8
namespace Go.Proofs.Ythddcbfgdpfcjaa.G
open Go.RowKit
def avocetlaw04_TypesIs.Pure : Prop := ∀ (l0 : List Int) (a1 : Int) (l2_0 : List Int) (l2_1 : List Int) (l3_0 : List Int) (l3_1 : List Int) (a4_0 : Int) (a4_1 : Int) (a4_2 : Bool) (a5_0 : Int) (a5_1 : Int) (a5_2 : Bool), l0.length ≤ maxLen → l0.length * 1 ≤ 140737488351232 → (∀ x ∈ l0, (Lit.int .u8 x).wf = true) → (Lit.int .i64 a1).wf = true → l2_0.length ≤ maxLen → (∀ x ∈ l2_0, (Lit.int .u8 x).wf = true) → l2_1.length ≤ maxLen → (∀ x ∈ l2_1, (Lit.int .u8 x).wf = true) → l3_0.length ≤ maxLen → (∀ x ∈ l3_0, (Lit.int .u8 x).wf = true) → l3_1.length ≤ maxLen → (∀ x ∈ l3_1, (Lit.int .u8 x).wf = true) → (Lit.int .i64 a4_0).wf = true → (Lit.int .i64 a4_1).wf = true → (Lit.int .i64 a5_0).wf = true → (Lit.int .i64 a5_1).wf = true → ∃ k, avocetlaw04_TypesIs.f k l0 a1 l2_0 l2_1 l3_0 l3_1 a4_0 a4_1 a4_2 a5_0 a5_1 a5_2 = some true
end Go.Proofs.Ythddcbfgdpfcjaa.G
