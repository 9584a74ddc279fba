/- TypesWithin: limits keep to themselves; what keeps to what keeps to others, keeps to these. -/
import Derived.Test.YthddcbfgdpfcjaaLawPTypesWithin
import Derived.Test.YthddcbfgdpfcjaaTyA
set_option linter.unusedVariables false
namespace Go.Proofs.Ythddcbfgdpfcjaa.Pure
open Go.RowKit Go.Proofs.Ythddcbfgdpfcjaa.G Go.Proofs.YthddcbfgdpfcjaaW.PrintWords Go.Proofs.YthddcbfgdpfcjaaW.PrintLast Go.Proofs.Ythddcbfgdpfcjaa.TyA
def wi (a0 a1 : Int) (a2 : Bool) (b0 b1 : Int) (b2 : Bool) : Bool := decide (b0 ≤ a0) && (!b2 || (a2 && decide (a1 ≤ b1)))
theorem wi_f (a0 a1 : Int) (a2 : Bool) (b0 b1 : Int) (b2 : Bool) : types_Within.f a0 a1 a2 b0 b1 b2 = some (wi a0 a1 a2 b0 b1 b2) := by
  unfold types_Within.f wi
  by_cases h : b0 ≤ a0
  · rw [if_pos h]
    cases b2 <;> cases a2 <;> simp [h]
  · rw [if_neg h]
    simp [h]
theorem TypesWithin : avocetlaw04_TypesWithin.Pure := by
  intro a0 a1 a2 b0 b1 b2 c0 c1 c2 _ _ _ _ _ _
  refine ⟨20, ?_⟩
  unfold avocetlaw04_TypesWithin.f
  rw [awake_f 20 (by omega)]
  simp only [wi_f, Option.bind_some]
  have e1 : wi a0 a1 a2 a0 a1 a2 = true := by unfold wi; cases a2 <;> simp
  have e2 : wi a0 a1 a2 a0 0 false = true := by unfold wi; simp
  have hj : avocetlaw04_TypesWithin.j0 20 true false a0 a1 a2 = some true := by
    simp [avocetlaw04_TypesWithin.j0, wi_f, e1, e2]
  by_cases h1 : wi a0 a1 a2 b0 b1 b2 = true
  · rw [if_pos h1]
    by_cases h2 : wi b0 b1 b2 c0 c1 c2 = true
    · rw [if_pos h2]
      have h3 : wi a0 a1 a2 c0 c1 c2 = true := by
        unfold wi at *
        cases a2 <;> cases b2 <;> cases c2 <;> simp_all <;> omega
      rw [h3]
      exact hj
    · rw [if_neg h2]; exact hj
  · rw [if_neg h1]; exact hj
end Go.Proofs.Ythddcbfgdpfcjaa.Pure
