/- FramesLocals: a local is what it was set to last, or its param, or 0; other frames' stay. For every input. -/
import Derived.Test.YtbbgkelcdooabaaLawPFramesLocals
namespace Go.Proofs.Ytbbgkelcdooabaa.Pure
open Go.RowKit Go.Proofs.Ytbbgkelcdooabaa.G Go.Proofs.YtbbgkelcdooabaaW.PrintWords Go.Proofs.YtbbgkelcdooabaaW.PrintLast
theorem FramesLocals : avocetlaw17_FramesLocals.Pure := by
  unfold avocetlaw17_FramesLocals.Pure
  intros
  rfl
end Go.Proofs.Ytbbgkelcdooabaa.Pure
