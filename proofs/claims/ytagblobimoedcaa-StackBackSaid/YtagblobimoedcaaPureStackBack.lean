/- StackBack: types that are pushed, where something is open, are wanted, and all is as it was; so is what is opened, given what it leaves. For every input. -/
import Derived.Test.YtagblobimoedcaaLawPStackBack
namespace Go.Proofs.Ytagblobimoedcaa.Pure
open Go.RowKit Go.Proofs.Ytagblobimoedcaa.G Go.Proofs.YtagblobimoedcaaW.PrintWords Go.Proofs.YtagblobimoedcaaW.PrintLast
theorem StackBack : avocetlaw09_StackBack.Pure := by
  unfold avocetlaw09_StackBack.Pure
  intros
  rfl
end Go.Proofs.Ytagblobimoedcaa.Pure
