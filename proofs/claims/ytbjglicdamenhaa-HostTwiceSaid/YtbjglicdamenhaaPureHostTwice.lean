/- HostTwice: two hosts with the same replies, asked the same, answer, and note, the same; a host that was never made is stuck. For every input. -/
import Derived.Test.YtbjglicdamenhaaLawPHostTwice
namespace Go.Proofs.Ytbjglicdamenhaa.Pure
open Go.RowKit Go.Proofs.Ytbjglicdamenhaa.G Go.Proofs.YtbjglicdamenhaaW.PrintWords Go.Proofs.YtbjglicdamenhaaW.PrintLast
theorem okI_wf {x : Int} (h : (Lit.int .i64 x).wf = true) : okI x := by
  simp only [Lit.wf, Bool.and_eq_true, decide_eq_true_eq] at h
  have e1 : IntKind.i64.min = -9223372036854775808 := rfl
  have e2 : IntKind.i64.max = 9223372036854775807 := rfl
  unfold okI
  omega
theorem okU_wf {x : Int} (h : (Lit.int .u64 x).wf = true) : okU x := by
  simp only [Lit.wf, Bool.and_eq_true, decide_eq_true_eq] at h
  have e1 : IntKind.u64.min = 0 := rfl
  have e2 : IntKind.u64.max = 18446744073709551615 := rfl
  unfold okU
  omega
theorem HostTwice : avocetlaw16_HostTwice.Pure := by
  unfold avocetlaw16_HostTwice.Pure
  intro l0 l1 hl hw hl1 hw1
  unfold avocetlaw16_HostTwice.f
  refine if_pos (fun x hx => ?_)
  have h := hw x hx
  unfold Own.wf82 at h
  exact ⟨okU_wf h.1, okI_wf h.2.2.1, okI_wf h.2.2.2.2.1, okU_wf h.2.2.2.2.2⟩
end Go.Proofs.Ytbjglicdamenhaa.Pure
