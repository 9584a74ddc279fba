/- FramesLoad: whatever is loaded, whether it may be, and all then, is what the document says. For every input. -/
import Derived.Test.YtbbgkelcdooabaaLawPFramesLoad
namespace Go.Proofs.Ytbbgkelcdooabaa.Pure
open Go.RowKit Go.Proofs.Ytbbgkelcdooabaa.G Go.Proofs.YtbbgkelcdooabaaW.PrintWords Go.Proofs.YtbbgkelcdooabaaW.PrintLast
theorem okA_wf {x : S44} (h : Own.wf44 x) : okA x := by
  unfold Own.wf44 at h
  have h1 := h.2.2.2.1
  clear h
  simp only [Lit.wf, Bool.and_eq_true, decide_eq_true_eq] at h1
  have e1 : IntKind.i64.min = -9223372036854775808 := rfl
  have e2 : IntKind.i64.max = 9223372036854775807 := rfl
  unfold okA
  omega
theorem FramesLoad : avocetlaw17_FramesLoad.Pure := by
  unfold avocetlaw17_FramesLoad.Pure
  intro a0 l1 l2 l3 _ _ h1
  intros
  unfold avocetlaw17_FramesLoad.f
  exact if_pos (fun x hx => okA_wf (h1 x hx))
end Go.Proofs.Ytbbgkelcdooabaa.Pure
