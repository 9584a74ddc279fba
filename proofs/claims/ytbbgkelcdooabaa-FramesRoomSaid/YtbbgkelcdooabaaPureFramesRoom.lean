/- FramesRoom: there is room for as many frames as was told, and no more; each that is left makes room for one. For every input. -/
import Derived.Test.YtbbgkelcdooabaaLawPFramesRoom
namespace Go.Proofs.Ytbbgkelcdooabaa.Pure
open Go.RowKit Go.Proofs.Ytbbgkelcdooabaa.G Go.Proofs.YtbbgkelcdooabaaW.PrintWords Go.Proofs.YtbbgkelcdooabaaW.PrintLast
theorem FramesRoom : avocetlaw17_FramesRoom.Pure := by
  unfold avocetlaw17_FramesRoom.Pure
  intros
  rfl
end Go.Proofs.Ytbbgkelcdooabaa.Pure
