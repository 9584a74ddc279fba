/- TypesOne: one type, the same bytes. -/
import Derived.Test.YthddcbfgdpfcjaaLawPTypesOne
import Derived.Test.YthddcbfgdpfcjaaTyP
set_option linter.unusedVariables false
set_option linter.unusedSimpArgs false
namespace Go.Proofs.Ythddcbfgdpfcjaa.Pure
open Go.RowKit Go.Proofs.Ythddcbfgdpfcjaa.G Go.Proofs.YthddcbfgdpfcjaaW.PrintWords Go.Proofs.YthddcbfgdpfcjaaW.PrintLast Go.Proofs.Ythddcbfgdpfcjaa.TyA Go.Proofs.Ythddcbfgdpfcjaa.TyP
theorem TypesOne : avocetlaw04_TypesOne.Pure := by
  intro a b c d _ ha _ hb _ hc _ hd
  have ha := allB_of ha
  have hb := allB_of hb
  have hc := allB_of hc
  have hd := allB_of hd
  refine ⟨40, ?_⟩
  unfold avocetlaw04_TypesOne.f
  rw [awake_f 40 (by omega), Option.bind_some, small_f, Option.bind_some]
  have hj : avocetlaw04_TypesOne.j0 40 true true a b c d = some true := by simp [avocetlaw04_TypesOne.j0]
  by_cases h1 : (decide (a.length ≤ 100) && decide (b.length ≤ 100)) = true
  · rw [if_pos h1, small_f, Option.bind_some]
    by_cases h2 : (decide (c.length ≤ 100) && decide (d.length ≤ 100)) = true
    · rw [h2]
      show avocetlaw04_TypesOne.j0 40 true false a b c d = some true
      simp only [avocetlaw04_TypesOne.j0]
      rw [if_neg (by simp), PutFunc_f 39 (by omega) [] a b (by simp), Option.bind_some, PutFunc_f 39 (by omega) [] c d (by simp), Option.bind_some]
      by_cases s1 : sane a b = true
      · rw [if_pos s1]
        have l1 := sane_len s1
        by_cases s2 : sane c d = true
        · have l2 := sane_len s2
          rw [if_pos s2, if_pos rfl]
          show avocetlaw04_TypesOne.j1 39 true (pf [] a b) 0 (pf [] c d) 0 false a b c d = some true
          have hn : allB [] := fun x hx => by simp at hx
          simp only [avocetlaw04_TypesOne.j1]
          rw [if_neg (by simp), if_pos trivial, Same_f ha hb hc hd, Option.bind_some, str_beq (pf_allB hn ha hb (by omega) (by omega)) (pf_allB hn hc hd (by omega) (by omega)), if_pos, Option.bind_some, Same_f hc hd ha hb, Option.bind_some, if_pos]
          · rw [pf_len]
            have e1 : wrap64 (3 + (a.length : Int)) = 3 + (a.length : Int) := by unfold wrap64; omega
            have e2 : wrap64 (3 + (a.length : Int) + (b.length : Int)) = 3 + (a.length : Int) + (b.length : Int) := by unfold wrap64; omega
            rw [e1, e2]
            simp
          · have q1 : decide (a = c) = decide (c = a) := decide_eq_decide.mpr eq_comm
            have q2 : decide (b = d) = decide (d = b) := decide_eq_decide.mpr eq_comm
            rw [q1, q2]; simp
          · rw [show decide (pf [] a b = pf [] c d) = decide (a = c ∧ b = d) from decide_eq_decide.mpr pf_inj]; simp
        · have s2' : sane c d = false := by simpa using s2
          rw [if_neg s2, if_pos rfl]
          show avocetlaw04_TypesOne.j1 39 true (pf [] a b) 0 [] 1 true a b c d = some true
          simp [avocetlaw04_TypesOne.j1, Sane_f, s2']
      · have s1' : sane a b = false := by simpa using s1
        rw [if_neg s1]
        by_cases s2 : sane c d = true
        · rw [if_pos s2]
          show avocetlaw04_TypesOne.j1 39 true [] 1 (pf [] c d) 0 true a b c d = some true
          simp [avocetlaw04_TypesOne.j1, Sane_f, s1', s2]
        · have s2' : sane c d = false := by simpa using s2
          rw [if_neg s2]
          show avocetlaw04_TypesOne.j1 39 true [] 1 [] 1 true a b c d = some true
          simp [avocetlaw04_TypesOne.j1, Sane_f, s1', s2']
    · have h2' : (decide (c.length ≤ 100) && decide (d.length ≤ 100)) = false := by simpa using h2
      rw [h2']; exact hj
  · rw [if_neg h1]; exact hj
end Go.Proofs.Ythddcbfgdpfcjaa.Pure
