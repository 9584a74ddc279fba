-- Made by lawrow.py (mine): the one pure statement of TablePlays.
import Derived.Test.YtjdnkhgpnddncaaG94
import Derived.Test.YtjdnkhgpnddncaaOpen
namespace Go.Proofs.Ytjdnkhgpnddncaa.G
open Go.RowKit
def avocetlaw14_TablePlays.Pure : Prop := ∀ (a0_0 : Int) (a0_1 : Int) (a0_2 : Bool) (l1 : List (S40)), (Lit.int .i64 a0_0).wf = true → (Lit.int .i64 a0_1).wf = true → l1.length ≤ maxLen → (∀ x ∈ l1, Own.wf40 x) → avocetlaw14_TablePlays.f a0_0 a0_1 a0_2 l1 = some true
end Go.Proofs.Ytjdnkhgpnddncaa.G
