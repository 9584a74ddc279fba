/- StackApart: what is made of a stack leaves the stack as it was. For every input. -/
import Derived.Test.YtagblobimoedcaaLawPStackApart
namespace Go.Proofs.Ytagblobimoedcaa.Pure
open Go.RowKit Go.Proofs.Ytagblobimoedcaa.G Go.Proofs.YtagblobimoedcaaW.PrintWords Go.Proofs.YtagblobimoedcaaW.PrintLast
theorem StackApart : avocetlaw09_StackApart.Pure := by
  unfold avocetlaw09_StackApart.Pure
  intros
  rfl
end Go.Proofs.Ytagblobimoedcaa.Pure
