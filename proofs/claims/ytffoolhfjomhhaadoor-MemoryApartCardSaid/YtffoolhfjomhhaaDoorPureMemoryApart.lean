/- MemoryApart: what is told may be changed, and no byte changes; two memories have nothing together. For every input, where package instr's table reads as the program lays it. -/
import Derived.Test.YtffoolhfjomhhaaDoorLawPMemoryApart
namespace Go.Proofs.YtffoolhfjomhhaaDoor.Pure
open Go.RowKit Go.Proofs.YtffoolhfjomhhaaDoor.G Go.Proofs.YtffoolhfjomhhaaDoorW.PrintWords Go.Proofs.YtffoolhfjomhhaaDoorW.PrintLast
theorem MemoryApart : avocetlaw13_MemoryApart.Pure := by
  intro a0 l1 h0 hm hl hw
  unfold avocetlaw13_MemoryApart.f
  have hb : okB l1 = true := okB_iff.2 ⟨fun c hc => by
    have h := hw c hc
    simp [Lit.wf, IntKind.min, IntKind.max, IntKind.bits, IntKind.signed] at h
    omega, by omega⟩
  rw [hb]
  rfl
end Go.Proofs.YtffoolhfjomhhaaDoor.Pure
