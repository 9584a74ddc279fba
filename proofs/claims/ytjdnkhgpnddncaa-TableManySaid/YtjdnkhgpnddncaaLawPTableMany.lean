-- Made by lawrow.py (mine): the one pure statement of TableMany.
import Derived.Test.YtjdnkhgpnddncaaG92
import Derived.Test.YtjdnkhgpnddncaaOpen
namespace Go.Proofs.Ytjdnkhgpnddncaa.G
open Go.RowKit
def avocetlaw14_TableMany.Pure : Prop := ∀ (l0 : List (S40)), l0.length ≤ maxLen → (∀ x ∈ l0, Own.wf40 x) → avocetlaw14_TableMany.f l0 = some true
end Go.Proofs.Ytjdnkhgpnddncaa.G
