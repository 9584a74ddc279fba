/- MemoryGrows: a memory grows as far as it may, with zeros behind, and all that was there. For every input, where package instr's table reads as the program lays it. -/
import Derived.Test.YtffoolhfjomhhaaDoorLawPMemoryGrows
namespace Go.Proofs.YtffoolhfjomhhaaDoor.Pure
open Go.RowKit Go.Proofs.YtffoolhfjomhhaaDoor.G Go.Proofs.YtffoolhfjomhhaaDoorW.PrintWords Go.Proofs.YtffoolhfjomhhaaDoorW.PrintLast
theorem okI_wf {x : Int} (h : (Lit.int .i64 x).wf = true) : okI x = true := by
  simp [Lit.wf, IntKind.min, IntKind.max, IntKind.bits, IntKind.signed] at h
  exact okI_iff.2 (by omega)
theorem MemoryGrows : avocetlaw13_MemoryGrows.Pure := by
  intro a0_0 a0_1 a0_2 l1 l2 h0 h1 hm1 hl1 hw1 hm2 hl2 hw2
  unfold avocetlaw13_MemoryGrows.f
  have hb : okB l2 = true := okB_iff.2 ⟨fun c hc => by
    have h := hw2 c hc
    simp [Lit.wf, IntKind.min, IntKind.max, IntKind.bits, IntKind.signed] at h
    omega, by omega⟩
  have ha : l1.all okI = true := List.all_eq_true.2 (fun x hx => okI_wf (hw1 x hx))
  rw [hb, okI_wf h0, okI_wf h1, ha, decide_eq_true (show l1.length ≤ 9223372036854775807 by omega)]
  rfl
end Go.Proofs.YtffoolhfjomhhaaDoor.Pure
