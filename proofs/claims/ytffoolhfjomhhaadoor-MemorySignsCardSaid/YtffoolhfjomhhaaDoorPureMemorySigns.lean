/- MemorySigns: what is read with its sign has the signed number of its bytes, without it the other one; both are values. For every input, where package instr's table reads as the program lays it. -/
import Derived.Test.YtffoolhfjomhhaaDoorLawPMemorySigns
namespace Go.Proofs.YtffoolhfjomhhaaDoor.Pure
open Go.RowKit Go.Proofs.YtffoolhfjomhhaaDoor.G Go.Proofs.YtffoolhfjomhhaaDoorW.PrintWords Go.Proofs.YtffoolhfjomhhaaDoorW.PrintLast
theorem MemorySigns : avocetlaw13_MemorySigns.Pure := by
  intro a0 a1 a2 h0 h1 h2
  have hu : ∀ {x : Int}, (Lit.int .u64 x).wf = true → okU x = true := fun {x} h => by
    refine okU_iff.2 ?_
    simp [Lit.wf, IntKind.min, IntKind.max, IntKind.bits, IntKind.signed] at h
    omega
  unfold avocetlaw13_MemorySigns.f
  rw [hu h0, hu h1]
  rfl
end Go.Proofs.YtffoolhfjomhhaaDoor.Pure
