/- StackDead: what is never come to gives whatever is wanted, and nothing of what was there ahead; killed, a stack may be wanted any types, and closed. For every input. -/
import Derived.Test.YtagblobimoedcaaLawPStackDead
namespace Go.Proofs.Ytagblobimoedcaa.Pure
open Go.RowKit Go.Proofs.Ytagblobimoedcaa.G Go.Proofs.YtagblobimoedcaaW.PrintWords Go.Proofs.YtagblobimoedcaaW.PrintLast
theorem StackDead : avocetlaw09_StackDead.Pure := by
  unfold avocetlaw09_StackDead.Pure
  intros
  rfl
end Go.Proofs.Ytagblobimoedcaa.Pure
