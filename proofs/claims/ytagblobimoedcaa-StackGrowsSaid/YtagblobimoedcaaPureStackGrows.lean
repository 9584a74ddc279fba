/- StackGrows: whatever is done with a stack, one behind the other, what is sane stays so, and what is open has at least as many values as when it was opened. For every input. -/
import Derived.Test.YtagblobimoedcaaLawPStackGrows
namespace Go.Proofs.Ytagblobimoedcaa.Pure
open Go.RowKit Go.Proofs.Ytagblobimoedcaa.G Go.Proofs.YtagblobimoedcaaW.PrintWords Go.Proofs.YtagblobimoedcaaW.PrintLast
theorem StackGrows : avocetlaw09_StackGrows.Pure := by
  unfold avocetlaw09_StackGrows.Pure
  intros
  rfl
end Go.Proofs.Ytagblobimoedcaa.Pure
