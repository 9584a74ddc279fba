/- TableMany: lots that are laid one behind the other stand there as the last ones have them. For every input. -/
import Derived.Test.YtjdnkhgpnddncaaLawPTableMany
namespace Go.Proofs.Ytjdnkhgpnddncaa.Pure
open Go.RowKit Go.Proofs.Ytjdnkhgpnddncaa.G Go.Proofs.YtjdnkhgpnddncaaW.PrintWords Go.Proofs.YtjdnkhgpnddncaaW.PrintLast
theorem TableMany : avocetlaw14_TableMany.Pure := fun _ _ _ => rfl
end Go.Proofs.Ytjdnkhgpnddncaa.Pure
