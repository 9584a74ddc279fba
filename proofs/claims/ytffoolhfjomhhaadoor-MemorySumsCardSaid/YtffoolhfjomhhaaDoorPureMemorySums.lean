/- MemorySums: memories of the same bytes have one Sum; a byte that changes changes it. For every input, where package instr's table reads as the program lays it. -/
import Derived.Test.YtffoolhfjomhhaaDoorLawPMemorySums
namespace Go.Proofs.YtffoolhfjomhhaaDoor.Pure
open Go.RowKit Go.Proofs.YtffoolhfjomhhaaDoor.G Go.Proofs.YtffoolhfjomhhaaDoorW.PrintWords Go.Proofs.YtffoolhfjomhhaaDoorW.PrintLast
theorem MemorySums : avocetlaw13_MemorySums.Pure := by
  intro a0 a1 l1 h0 h1 hm hl hw
  unfold avocetlaw13_MemorySums.f
  have hb : okB l1 = true := okB_iff.2 ⟨fun c hc => by
    have h := hw c hc
    simp [Lit.wf, IntKind.min, IntKind.max, IntKind.bits, IntKind.signed] at h
    omega, by omega⟩
  simp [Lit.wf, IntKind.min, IntKind.max, IntKind.bits, IntKind.signed] at h1
  rw [hb, decide_eq_true h1.1, decide_eq_true (show a1 < 256 by omega)]
  rfl
end Go.Proofs.YtffoolhfjomhhaaDoor.Pure
