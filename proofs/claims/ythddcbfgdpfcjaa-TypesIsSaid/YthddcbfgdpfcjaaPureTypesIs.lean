/- TypesIs: what any bytes tell, any types' bytes, is what the document says. -/
import Derived.Test.YthddcbfgdpfcjaaLawPTypesIs
import Derived.Test.YthddcbfgdpfcjaaTyS
set_option linter.unusedVariables false
set_option linter.unusedSimpArgs false
namespace Go.Proofs.Ythddcbfgdpfcjaa.Pure
open Go.RowKit Go.Proofs.Ythddcbfgdpfcjaa.G Go.Proofs.YthddcbfgdpfcjaaW.PrintWords Go.Proofs.YthddcbfgdpfcjaaW.PrintLast Go.Proofs.Ythddcbfgdpfcjaa.LebM Go.Proofs.Ythddcbfgdpfcjaa.TyA Go.Proofs.Ythddcbfgdpfcjaa.TyR Go.Proofs.Ythddcbfgdpfcjaa.TyP Go.Proofs.Ythddcbfgdpfcjaa.TyF Go.Proofs.Ythddcbfgdpfcjaa.TyD Go.Proofs.Ythddcbfgdpfcjaa.TyS
theorem TypesIs : avocetlaw04_TypesIs.Pure := by
  intro b at_ p r p2 r2 m x h m2 x2 h2 _ _ hb hat _ hp _ hr _ hp2 _ hr2 _ _ _ _
  have hb : allB b := allB_of hb
  have hp : allB p := allB_of hp
  have hr : allB r := allB_of hr
  have hp2 : allB p2 := allB_of hp2
  have hr2 : allB r2 := allB_of hr2
  refine ⟨400, ?_⟩
  unfold avocetlaw04_TypesIs.f
  rw [awake_f 400 (by omega), Option.bind_some]
  have jt : avocetlaw04_TypesIs.j0 400 b at_ true true p r p2 r2 m x h m2 x2 h2 = some true := by simp [avocetlaw04_TypesIs.j0]
  by_cases c1 : (b.length : Int) > 500
  · rw [if_pos c1]; exact jt
  · rw [if_neg c1, small_f, Option.bind_some]
    by_cases c2 : (decide (p.length ≤ 100) && decide (r.length ≤ 100)) = true
    · rw [if_pos c2, small_f, Option.bind_some]
      by_cases c3 : (decide (p2.length ≤ 100) && decide (r2.length ≤ 100)) = true
      · rw [c3]
        have hB : Big b := by show b.length < 1000000000000; omega
        obtain ⟨f1, f2⟩ := fn_allB hb at_
        show avocetlaw04_TypesIs.j0 400 b at_ true false p r p2 r2 m x h m2 x2 h2 = some true
        simp only [avocetlaw04_TypesIs.j0]
        rw [if_neg (by simp), vl_f 398 b hB, Option.bind_some, rvl_f 398 b hB, Option.bind_some, Func_f 399 (by omega) b hb hB, Option.bind_some, rFunc_f 399 (by omega) b hb hB, Option.bind_some, Limits_f b hb hB, Option.bind_some, rLimits_f 399 (by omega) b hb hB, Option.bind_some]
        rw [if_pos rfl, if_pos rfl, if_pos rfl, rSame_f f1 f2 f1 f2, Option.bind_some, if_pos (by simp), if_pos rfl, if_pos rfl, if_neg (by simp), if_pos rfl]
        rw [show ((lm b at_).2.2.2.2 != (lm b at_).2.2.2.2) = false by simp]
        show avocetlaw04_TypesIs.j1 399 b true false p r p2 r2 m x h m2 x2 h2 = some true
        obtain ⟨t, e1, e2⟩ := Within_same m x h m2 x2 h2
        simp only [avocetlaw04_TypesIs.j1]
        rw [if_neg (by simp), PutFunc_f 398 (by omega) b p r (by omega), Option.bind_some, rPutFunc_f 398 (by omega) b p r hB, Option.bind_some, PutLimits_f 398 (by omega) b hB, Option.bind_some, rPutLimits_f 398 (by omega) b hB, Option.bind_some]
        rw [if_pos rfl, if_pos rfl, if_pos rfl, if_pos rfl, if_pos trivial, Sane_f, Option.bind_some, rSane_f 398 (by omega), Option.bind_some, if_pos (by simp), Same_f hp hr hp2 hr2, Option.bind_some, rSame_f hp hr hp2 hr2, Option.bind_some, if_pos (by simp), e1, Option.bind_some, e2, Option.bind_some]
        simp
      · have c3' : (decide (p2.length ≤ 100) && decide (r2.length ≤ 100)) = false := by simpa using c3
        rw [c3']; exact jt
    · rw [if_neg c2]; exact jt
end Go.Proofs.Ythddcbfgdpfcjaa.Pure
