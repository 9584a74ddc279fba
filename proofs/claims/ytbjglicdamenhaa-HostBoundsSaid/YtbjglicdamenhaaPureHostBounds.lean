/- HostBounds: what a reply does outside of what there is is not done: no byte, and no global, but those it names. For every input. -/
import Derived.Test.YtbjglicdamenhaaLawPHostBounds
namespace Go.Proofs.Ytbjglicdamenhaa.Pure
open Go.RowKit Go.Proofs.Ytbjglicdamenhaa.G Go.Proofs.YtbjglicdamenhaaW.PrintWords Go.Proofs.YtbjglicdamenhaaW.PrintLast
theorem okI_wf {x : Int} (h : (Lit.int .i64 x).wf = true) : okI x := by
  simp only [Lit.wf, Bool.and_eq_true, decide_eq_true_eq] at h
  have e1 : IntKind.i64.min = -9223372036854775808 := rfl
  have e2 : IntKind.i64.max = 9223372036854775807 := rfl
  unfold okI
  omega
theorem okU_wf {x : Int} (h : (Lit.int .u64 x).wf = true) : okU x := by
  simp only [Lit.wf, Bool.and_eq_true, decide_eq_true_eq] at h
  have e1 : IntKind.u64.min = 0 := rfl
  have e2 : IntKind.u64.max = 18446744073709551615 := rfl
  unfold okU
  omega
theorem HostBounds : avocetlaw16_HostBounds.Pure := by
  unfold avocetlaw16_HostBounds.Pure
  intro a0 a1 a2 l3 a4 a5 h0 h2 hm hw h4 h5
  unfold avocetlaw16_HostBounds.f
  refine if_pos ⟨okU_wf h0, okI_wf h2, okI_wf h4, okU_wf h5, fun c hc => ?_⟩
  have h := hw c hc
  simp [Lit.wf, IntKind.min, IntKind.max, IntKind.bits, IntKind.signed] at h
  omega
end Go.Proofs.Ytbjglicdamenhaa.Pure
