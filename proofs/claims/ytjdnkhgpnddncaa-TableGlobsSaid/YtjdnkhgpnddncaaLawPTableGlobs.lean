-- Made by lawrow.py (mine): the one pure statement of TableGlobs.
import Derived.Test.YtjdnkhgpnddncaaG93
import Derived.Test.YtjdnkhgpnddncaaOpen
namespace Go.Proofs.Ytjdnkhgpnddncaa.G
open Go.RowKit
def avocetlaw14_TableGlobs.Pure : Prop := ∀ (l0 : List (S40)) (a1 : Int), l0.length ≤ maxLen → (∀ x ∈ l0, Own.wf40 x) → (Lit.int .i64 a1).wf = true → avocetlaw14_TableGlobs.f l0 a1 = some true
end Go.Proofs.Ytjdnkhgpnddncaa.G
