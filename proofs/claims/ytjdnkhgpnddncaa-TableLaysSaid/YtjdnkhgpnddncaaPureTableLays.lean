/- TableLays: what is laid is there, all else stays; what has no room changes nothing. For every input. -/
import Derived.Test.YtjdnkhgpnddncaaLawPTableLays
namespace Go.Proofs.Ytjdnkhgpnddncaa.Pure
open Go.RowKit Go.Proofs.Ytjdnkhgpnddncaa.G Go.Proofs.YtjdnkhgpnddncaaW.PrintWords Go.Proofs.YtjdnkhgpnddncaaW.PrintLast
theorem TableLays : avocetlaw14_TableLays.Pure := by
  intro a0 a1 l2 a3 h0 h1 hm hl hw h3
  unfold avocetlaw14_TableLays.f
  rw [decide_eq_true (show l2.length ≤ 9223372036854775807 by omega)]
  rfl
end Go.Proofs.Ytjdnkhgpnddncaa.Pure
