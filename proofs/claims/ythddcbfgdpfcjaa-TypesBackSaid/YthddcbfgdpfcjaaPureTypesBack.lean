/- TypesBack: what is laid behind others is read there as it was; a byte less is too short. -/
import Derived.Test.YthddcbfgdpfcjaaLawPTypesBack
import Derived.Test.YthddcbfgdpfcjaaTyB
set_option linter.unusedVariables false
set_option linter.unusedSimpArgs false
namespace Go.Proofs.Ythddcbfgdpfcjaa.Pure
open Go.RowKit Go.Proofs.Ythddcbfgdpfcjaa.G Go.Proofs.YthddcbfgdpfcjaaW.PrintWords Go.Proofs.YthddcbfgdpfcjaaW.PrintLast Go.Proofs.Ythddcbfgdpfcjaa.LebM Go.Proofs.Ythddcbfgdpfcjaa.TyA Go.Proofs.Ythddcbfgdpfcjaa.TyR Go.Proofs.Ythddcbfgdpfcjaa.TyP Go.Proofs.Ythddcbfgdpfcjaa.TyF Go.Proofs.Ythddcbfgdpfcjaa.TyB
theorem TypesBack : avocetlaw04_TypesBack.Pure := by
  intro a p r m x h _ _ ha _ hp _ hr hm hx
  have ha : allB a := allB_of ha
  have hp : allB p := allB_of hp
  have hr : allB r := allB_of hr
  refine ⟨60, ?_⟩
  unfold avocetlaw04_TypesBack.f
  rw [awake_f 60 (by omega), Option.bind_some]
  have jt : avocetlaw04_TypesBack.j0 60 a true true p r m x h = some true := by simp [avocetlaw04_TypesBack.j0]
  by_cases h1 : (a.length : Int) > 100
  · rw [if_pos h1]; exact jt
  · rw [if_neg h1, small_f, Option.bind_some]
    by_cases h2 : (decide (p.length ≤ 100) && decide (r.length ≤ 100)) = true
    · rw [h2]
      have hba : Big a := by show a.length < 1000000000000; omega
      -- the limits
      have hl : ∀ e : Int, (decide (e = 0)) = sane p r → avocetlaw04_TypesBack.j1 59 a true e p r m x h = some true := by
        intro e he
        have hfin : (e == 0) = sane p r := by rw [← he]; rfl
        have hend : (if true = true then (types_Sane.f p r).bind fun t => some ((e == 0) == t) else some false) = some true := by
          rw [if_pos rfl, Sane_f, Option.bind_some, hfin]; simp
        simp only [avocetlaw04_TypesBack.j1]
        rw [PutLimits_f 58 (by omega) a hba, Option.bind_some]
        by_cases hq : (pl a m x h).2 = 0
        · obtain ⟨q1, q2⟩ := lm_pl a m x h hq
          obtain ⟨b1, b2⟩ := pl_allB ha m x h
          have b3 := pl_pos hq
          have hc := cutlen (pl a m x h).1.length (by omega) b3
          rw [if_pos hq, Limits_f _ b1 (by show _ < 1000000000000; omega), Option.bind_some, hc, if_pos (by omega), if_pos (by omega), Int.toNat_natCast, Limits_f _ (allB_take b1 _) (by show _ < 1000000000000; simp; omega), Option.bind_some, q1, q2]
          simp only
          rw [if_pos trivial, if_pos trivial, if_neg (by simp), if_pos trivial]
          exact hend
        · rw [if_neg hq]
          exact hend
      show avocetlaw04_TypesBack.j0 60 a true false p r m x h = some true
      simp only [avocetlaw04_TypesBack.j0]
      rw [if_neg (by simp), PutFunc_f 59 (by omega) a p r (by omega), Option.bind_some]
      by_cases hs : sane p r = true
      · have hlen := sane_len hs
        have b1 : allB (pf a p r) := pf_allB ha hp hr (by omega) (by omega)
        have b2 := pf_len a p r
        have hc := cutlen (pf a p r).length (by omega) (by omega)
        rw [if_pos hs]
        simp only
        rw [if_pos trivial, Func_f 59 (by omega) _ b1 (by show _ < 1000000000000; omega), Option.bind_some, hc, if_pos (by omega), if_pos (by omega), Int.toNat_natCast, Func_f 59 (by omega) _ (allB_take b1 _) (by show _ < 1000000000000; simp; omega), Option.bind_some, fn_pf a p r hs, fn_short a p r hs]
        simp only
        rw [if_pos trivial, if_pos trivial, Same_f hp hr hp hr, Option.bind_some, if_pos (by simp), if_pos trivial, Sane_f, Option.bind_some, if_pos hs]
        exact hl 0 (by rw [hs]; rfl)
      · rw [if_neg hs]
        simp only
        rw [if_neg (by decide)]
        exact hl 1 (by simp at hs; rw [hs]; rfl)
    · have h2' : (decide (p.length ≤ 100) && decide (r.length ≤ 100)) = false := by simpa using h2
      rw [h2']; exact jt
end Go.Proofs.Ythddcbfgdpfcjaa.Pure
