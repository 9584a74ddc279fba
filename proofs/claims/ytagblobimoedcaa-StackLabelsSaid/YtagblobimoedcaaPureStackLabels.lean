/- StackLabels: there are as many labels as are open; each takes what it leaves, but a loop nothing. For every input. -/
import Derived.Test.YtagblobimoedcaaLawPStackLabels
namespace Go.Proofs.Ytagblobimoedcaa.Pure
open Go.RowKit Go.Proofs.Ytagblobimoedcaa.G Go.Proofs.YtagblobimoedcaaW.PrintWords Go.Proofs.YtagblobimoedcaaW.PrintLast
theorem StackLabels : avocetlaw09_StackLabels.Pure := by
  unfold avocetlaw09_StackLabels.Pure
  intros
  rfl
end Go.Proofs.Ytagblobimoedcaa.Pure
