/- MemoryPlays: whatever is loaded, stored, grown, and laid, what is answered, and all bytes in the end, are what the document says. For every input. -/
import Derived.Test.YtffoolhfjomhhaaDoorLawPMemoryPlays
namespace Go.Proofs.YtffoolhfjomhhaaDoor.Pure
open Go.RowKit Go.Proofs.YtffoolhfjomhhaaDoor.G Go.Proofs.YtffoolhfjomhhaaDoorW.PrintWords Go.Proofs.YtffoolhfjomhhaaDoorW.PrintLast
theorem okI_wf {x : Int} (h : (Lit.int .i64 x).wf = true) : okI x := by
  simp only [Lit.wf, Bool.and_eq_true, decide_eq_true_eq] at h
  have e1 : IntKind.i64.min = -9223372036854775808 := rfl
  have e2 : IntKind.i64.max = 9223372036854775807 := rfl
  unfold okI
  omega
theorem okU_wf {x : Int} (h : (Lit.int .u64 x).wf = true) : okU x := by
  simp only [Lit.wf, Bool.and_eq_true, decide_eq_true_eq] at h
  have e1 : IntKind.u64.min = 0 := rfl
  have e2 : IntKind.u64.max = 18446744073709551615 := rfl
  unfold okU
  omega
theorem MemoryPlays : avocetlaw13_MemoryPlays.Pure := by
  unfold avocetlaw13_MemoryPlays.Pure
  intro a0 a1 a2 l1 w0 w1 hl hw
  unfold avocetlaw13_MemoryPlays.f
  refine if_pos ⟨⟨okI_wf w0, okI_wf w1⟩, fun x hx => ?_⟩
  have h := hw x hx
  unfold Own.wf57 at h
  exact ⟨okI_wf h.2.1, okU_wf h.2.2.1, okU_wf h.2.2.2.1, okU_wf h.2.2.2.2.1, okI_wf h.2.2.2.2.2.1, okI_wf h.2.2.2.2.2.2.1, fun c hc => by
    have := h.2.2.2.2.2.2.2.2 c hc
    simp [Lit.wf, IntKind.min, IntKind.max, IntKind.bits, IntKind.signed] at this
    omega⟩
end Go.Proofs.YtffoolhfjomhhaaDoor.Pure
