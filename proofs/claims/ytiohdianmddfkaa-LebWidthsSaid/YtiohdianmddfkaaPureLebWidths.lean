/- LebWidths: a number of a width is read by each greater one as the same; of bytes that are none nothing is told. -/
import Derived.Test.YtiohdianmddfkaaG6
import Derived.Test.YtiohdianmddfkaaLebR
set_option linter.unusedVariables false
namespace Go.Proofs.Ytiohdianmddfkaa.Pure
open Go.RowKit Go.Proofs.Ytiohdianmddfkaa.G Go.Proofs.YtiohdianmddfkaaW.PrintWords Go.Proofs.YtiohdianmddfkaaW.PrintLast Go.Proofs.YtiohdianmddfkaaW.PrintMore Go.Proofs.Ytiohdianmddfkaa.LebM Go.Proofs.Ytiohdianmddfkaa.LebU Go.Proofs.Ytiohdianmddfkaa.LebR

theorem LebWidths : avocetlaw01_LebWidths.Pure := by
  intro l a1 a2 _ hlen hl h1 h2
  have hb : allB l := fun x hx => wf_u8 (hl x hx)
  refine ⟨20, ?_⟩
  unfold avocetlaw01_LebWidths.f
  rw [awake_f 20 (by omega), Option.bind_some]
  by_cases hc : (l.length : Int) > 100
  · rw [if_pos hc]
  · rw [if_neg hc, and_63, and_63, wrap64_id (1 + a1 % 64) (by omega) (by omega), wrap64_id (1 + a2 % 64) (by omega) (by omega)]
    have hm : mn (1 + a1 % 64) (1 + a2 % 64) ≤ mx (1 + a1 % 64) (1 + a2 % 64) ∧ mx (1 + a1 % 64) (1 + a2 % 64) ≤ 64 := by unfold mn mx; split <;> split <;> omega
    generalize mn (1 + a1 % 64) (1 + a2 % 64) = p at hm ⊢
    generalize mx (1 + a1 % 64) (1 + a2 % 64) = q at hm ⊢
    rw [ReadU_f l hb 0 p (by omega), ReadU_f l hb 0 q (by omega), ReadS_f 20 (by omega) l hb 0 p (by omega), ReadS_f 20 (by omega) l hb 0 q (by omega)]
    have u1 := rU_wide l hb 0 p q hm.1 hm.2
    have u2 := rU_none l 0 p
    have s1 := rS_wide l hb 0 p q hm.1 hm.2
    have s2 := rS_none l 0 p
    simp only [Option.bind_some, if_true]
    by_cases hu : (rU l 0 p).2.2 = 0
    · rw [u1 hu]
      by_cases hs : (rS l 0 p).2.2 = 0
      · rw [s1 hs]
        simp [hu, hs]
      · simp [hu, hs, s2 hs]
    · by_cases hs : (rS l 0 p).2.2 = 0
      · rw [s1 hs]
        simp [hu, hs, u2 hu]
      · simp [hu, hs, s2 hs, u2 hu]

end Go.Proofs.Ytiohdianmddfkaa.Pure
