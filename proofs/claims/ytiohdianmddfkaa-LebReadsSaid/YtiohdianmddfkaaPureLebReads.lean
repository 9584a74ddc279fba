/- LebReads: what is read of any bytes, from any place, of any width, is what the document says. -/
import Derived.Test.YtiohdianmddfkaaLebD
set_option linter.unusedVariables false
namespace Go.Proofs.Ytiohdianmddfkaa.Pure
open Go.RowKit Go.Proofs.Ytiohdianmddfkaa.G Go.Proofs.YtiohdianmddfkaaW.PrintWords Go.Proofs.YtiohdianmddfkaaW.PrintLast Go.Proofs.YtiohdianmddfkaaW.PrintMore Go.Proofs.Ytiohdianmddfkaa.LebM Go.Proofs.Ytiohdianmddfkaa.LebU Go.Proofs.Ytiohdianmddfkaa.LebR Go.Proofs.Ytiohdianmddfkaa.LebD

theorem LebReads : avocetlaw01_LebReads.Pure := by
  intro l a1 a2 _ hlen hl h1 h2
  have hb : allB l := fun x hx => wf_u8 (hl x hx)
  refine ⟨300, ?_⟩
  unfold avocetlaw01_LebReads.f
  rw [awake_f 300 (by omega), Option.bind_some]
  by_cases hc : (l.length : Int) > 1000
  · rw [if_pos hc]
  · rw [if_neg hc, ReadU_f l hb _ _ (by omega), refReadU_f 300 (by omega) l hb (by omega), ReadS_f 300 (by omega) l hb _ _ (by omega), refReadS_f 300 (by omega) l hb (by omega)]
    simp

end Go.Proofs.Ytiohdianmddfkaa.Pure
