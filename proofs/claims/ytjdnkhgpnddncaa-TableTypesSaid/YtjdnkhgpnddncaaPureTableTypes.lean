/- TableTypes: a global keeps its type, and whether it may change, whatever it is set to; there are at most so many. For every input. -/
import Derived.Test.YtjdnkhgpnddncaaLawPTableTypes
namespace Go.Proofs.Ytjdnkhgpnddncaa.Pure
open Go.RowKit Go.Proofs.Ytjdnkhgpnddncaa.G Go.Proofs.YtjdnkhgpnddncaaW.PrintWords Go.Proofs.YtjdnkhgpnddncaaW.PrintLast
theorem TableTypes : avocetlaw14_TableTypes.Pure := by
  intro a0 a1 a2 a3 h0 h2 h3
  unfold avocetlaw14_TableTypes.f
  simp [Lit.wf, IntKind.min, IntKind.max, IntKind.bits, IntKind.signed] at h0 h2
  rw [decide_eq_true h0.1, decide_eq_true (show a0 < 256 by omega), decide_eq_true h2.1, decide_eq_true (show a2 < 18446744073709551616 by omega)]
  rfl
end Go.Proofs.Ytjdnkhgpnddncaa.Pure
