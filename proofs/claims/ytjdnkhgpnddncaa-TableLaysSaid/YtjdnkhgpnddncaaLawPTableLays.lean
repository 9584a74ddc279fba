-- Made by lawrow.py (mine): the one pure statement of TableLays.
import Derived.Test.YtjdnkhgpnddncaaG90
namespace Go.Proofs.Ytjdnkhgpnddncaa.G
open Go.RowKit
def avocetlaw14_TableLays.Pure : Prop := ∀ (a0 : Int) (a1 : Int) (l2 : List Int) (a3 : Int), (Lit.int .i64 a0).wf = true → (Lit.int .i64 a1).wf = true → l2.length ≤ maxLen → l2.length * 8 ≤ 140737488351232 → (∀ x ∈ l2, (Lit.int .i64 x).wf = true) → (Lit.int .i64 a3).wf = true → avocetlaw14_TableLays.f a0 a1 l2 a3 = some true
end Go.Proofs.Ytjdnkhgpnddncaa.G
