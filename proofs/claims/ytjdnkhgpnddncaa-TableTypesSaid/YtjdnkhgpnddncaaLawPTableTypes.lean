-- Made by lawrow.py (mine): the one pure statement of TableTypes.
import Derived.Test.YtjdnkhgpnddncaaG91
namespace Go.Proofs.Ytjdnkhgpnddncaa.G
open Go.RowKit
def avocetlaw14_TableTypes.Pure : Prop := ∀ (a0 : Int) (a1 : Bool) (a2 : Int) (a3 : Int), (Lit.int .u8 a0).wf = true → (Lit.int .u64 a2).wf = true → (Lit.int .i64 a3).wf = true → avocetlaw14_TableTypes.f a0 a1 a2 a3 = some true
end Go.Proofs.Ytjdnkhgpnddncaa.G
