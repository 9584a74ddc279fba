/- For every number: it has one to four bytes of its own, as it is great, or none. -/
import Derived.Test.YtmbpimhfanafcaaDoorUtfN
import Derived.Test.YtmbpimhfanafcaaDoorG3
namespace Go.Proofs.YtmbpimhfanafcaaDoor.Pure
open Go.RowKit Go.Proofs.YtmbpimhfanafcaaDoor.G Go.Proofs.YtmbpimhfanafcaaDoorW.PrintWords Go.Proofs.YtmbpimhfanafcaaDoorW.PrintLast
set_option linter.unusedVariables false
theorem one_j1 (v : Int) (hv : okr v = true) (n : Int) (hn : (if v ≥ 65536 then wrap64 (n + 1) else n) = ((enc v).length : Int)) : avocetlaw03_UtfOne.j1 10 true v (enc v) n = some true := by
  have h1 : flat [v] = enc v := by simp [flat]
  have hk : okl [v] := okl_cons.2 ⟨hv, okl_nil⟩
  have hl := enc_len v
  have hr : utf_Runes.f (enc v) = some ([v], true) := by
    rw [← h1]
    exact runes_yes hk (by rw [h1]; omega)
  have hle : v ≤ 1114111 := by simp only [okr, decide_eq_true_eq] at hv; omega
  show avocetlaw03_UtfOne.j1 (9 + 1) true v (enc v) n = _
  simp only [avocetlaw03_UtfOne.j1]
  by_cases h : v ≥ 65536
  · rw [if_pos h] at hn
    rw [if_pos h, hr]
    simp only [Option.bind_some, if_true]
    rw [if_pos hn.symm, Ints_eq [v] (by simp) 9 (by simp)]
    simp [hle]
  · rw [if_neg h] at hn
    rw [if_neg h, hr]
    simp only [Option.bind_some, if_true]
    rw [if_pos hn.symm, Ints_eq [v] (by simp) 9 (by simp)]
    simp [hle]
theorem one_j0 (v : Int) (hv : okr v = true) (n : Int) (hn : (if v ≥ 65536 then wrap64 ((if v ≥ 2048 then wrap64 (n + 1) else n) + 1) else (if v ≥ 2048 then wrap64 (n + 1) else n)) = ((enc v).length : Int)) : avocetlaw03_UtfOne.j0 11 true v (enc v) n = some true := by
  show avocetlaw03_UtfOne.j0 (10 + 1) true v (enc v) n = _
  simp only [avocetlaw03_UtfOne.j0]
  by_cases h : v ≥ 2048
  · rw [if_pos h] at hn ⊢
    exact one_j1 v hv _ hn
  · rw [if_neg h] at hn ⊢
    exact one_j1 v hv _ hn
theorem UtfOne : avocetlaw03_UtfOne.Pure := by
  intro a ha
  refine ⟨11, ?_⟩
  unfold avocetlaw03_UtfOne.f
  rw [awake_yes, mask21]
  simp only [Option.bind_some]
  obtain ⟨v, hv⟩ : ∃ v, a % 2097152 = v := ⟨_, rfl⟩
  have h0 : 0 ≤ v ∧ v < 2097152 := by omega
  rw [hv]
  rw [from_eq [v] (by simp) 11 (by simp)]
  simp only [Option.bind_some, List.all_cons, List.all_nil, Bool.and_true]
  cases hk : okr v with
  | true =>
    have h1 : flat [v] = enc v := by simp [flat]
    have hk' := hk
    simp only [okr, decide_eq_true_eq] at hk'
    simp only [if_true, h1]
    by_cases h2 : v ≥ 128
    · rw [if_pos h2]
      refine one_j0 v hk _ ?_
      unfold enc
      rw [if_neg (show ¬ v < 128 by omega)]
      by_cases h3 : v < 2048
      · rw [if_neg (by omega), if_neg (by omega), if_pos h3]; simp
      · rw [if_neg h3]
        by_cases h4 : v < 65536
        · rw [if_neg (by omega), if_pos (by omega), if_pos h4]; simp [wrap64]
        · rw [if_pos (by omega), if_pos (by omega), if_neg h4]; simp [wrap64]
    · rw [if_neg h2]
      refine one_j0 v hk _ ?_
      unfold enc
      rw [if_pos (show v < 128 by omega), if_neg (by omega), if_neg (by omega)]
      simp
  | false =>
    simp only [okr, decide_eq_false_iff_not] at hk
    simp only [Bool.false_eq_true, if_false, if_true, List.length_nil]
    by_cases h2 : v > 1114111
    · rw [if_pos h2]; rfl
    · have h3 : v ≥ 55296 := by omega
      have h4 : v ≤ 57343 := by omega
      simp [h2, h3, h4]
end Go.Proofs.YtmbpimhfanafcaaDoor.Pure
