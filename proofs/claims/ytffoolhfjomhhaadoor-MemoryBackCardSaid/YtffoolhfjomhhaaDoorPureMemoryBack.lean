/- MemoryBack: what is stored is loaded, as its lowest bytes; the bytes beside stay. For every input, where package instr's table reads as the program lays it. -/
import Derived.Test.YtffoolhfjomhhaaDoorLawPMemoryBack
namespace Go.Proofs.YtffoolhfjomhhaaDoor.Pure
open Go.RowKit Go.Proofs.YtffoolhfjomhhaaDoor.G Go.Proofs.YtffoolhfjomhhaaDoorW.PrintWords Go.Proofs.YtffoolhfjomhhaaDoorW.PrintLast
theorem okU_wf {x : Int} (h : (Lit.int .u64 x).wf = true) : okU x = true := by
  simp [Lit.wf, IntKind.min, IntKind.max, IntKind.bits, IntKind.signed] at h
  exact okU_iff.2 (by omega)
theorem MemoryBack : avocetlaw13_MemoryBack.Pure := by
  intro a0 a1 a2 a3 l1 h0 h1 h2 h3 hm hl hw
  unfold avocetlaw13_MemoryBack.f
  have hb : okB l1 = true := okB_iff.2 ⟨fun c hc => by
    have h := hw c hc
    simp [Lit.wf, IntKind.min, IntKind.max, IntKind.bits, IntKind.signed] at h
    omega, by omega⟩
  rw [hb, okU_wf h1, okU_wf h2, okU_wf h3]
  rfl
end Go.Proofs.YtffoolhfjomhhaaDoor.Pure
