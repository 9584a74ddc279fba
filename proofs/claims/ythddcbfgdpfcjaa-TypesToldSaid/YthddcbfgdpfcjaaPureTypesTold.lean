/- TypesTold: what is told may be, and is laid in no more bytes than it stood in. -/
import Derived.Test.YthddcbfgdpfcjaaG8
import Derived.Test.YthddcbfgdpfcjaaTyF
set_option linter.unusedVariables false
set_option linter.unusedSimpArgs false
namespace Go.Proofs.Ythddcbfgdpfcjaa.Pure
open Go.RowKit Go.Proofs.Ythddcbfgdpfcjaa.G Go.Proofs.YthddcbfgdpfcjaaW.PrintWords Go.Proofs.YthddcbfgdpfcjaaW.PrintLast Go.Proofs.Ythddcbfgdpfcjaa.LebM Go.Proofs.Ythddcbfgdpfcjaa.TyA Go.Proofs.Ythddcbfgdpfcjaa.TyR Go.Proofs.Ythddcbfgdpfcjaa.TyP Go.Proofs.Ythddcbfgdpfcjaa.TyF
theorem fn_ok {l : List Int} (hl : allB l) (h : (fn l 0).2.2.2 = 0) : sane (fn l 0).1 (fn l 0).2.1 = true ∧ ((3 + (fn l 0).1.length + (fn l 0).2.1.length : Nat) : Int) ≤ (fn l 0).2.2.1 ∧ (fn l 0).2.2.1 ≤ (l.length : Int) := by
  unfold fn at h ⊢
  split at h
  · rename_i h1
    split at h
    · rename_i h2
      split at h
      · rename_i h3
        split at h
        · rename_i h4
          rw [if_pos h1, if_pos h2, if_pos h3, if_pos h4]
          obtain ⟨n, x, a1, a2, a3, a4, a5, a6, a7, a8⟩ := lst_ok hl (by omega) h3
          obtain ⟨n2, x2, b1, b2, b3, b4, b5, b6, b7, b8⟩ := lst_ok hl (by omega) h4
          simp only
          generalize (lst l (0 + 1) 16).1 = p at *
          generalize (lst l (lst l (0 + 1) 16).2.1 1).1 = r at *
          refine ⟨?_, by omega, by omega⟩
          unfold sane
          rw [a8, b8, decide_eq_true (show p.length ≤ 16 by omega), decide_eq_true (show r.length ≤ 1 by omega)]; rfl
        · rename_i h4; exact absurd h h4
      · rename_i h3; exact absurd h h3
    · exact absurd h (by decide)
  · rename_i h1; exact absurd h h1
theorem lm_ok {l : List Int} (hl : allB l) (h : (lm l 0).2.2.2.2 = 0) : (pl [] (lm l 0).1 (lm l 0).2.1 (lm l 0).2.2.1).2 = 0 ∧ ((pl [] (lm l 0).1 (lm l 0).2.1 (lm l 0).2.2.1).1.length : Int) ≤ (lm l 0).2.2.2.1 ∧ (lm l 0).2.2.2.1 ≤ (l.length : Int) := by
  unfold lm at h ⊢
  split at h
  · rename_i h1
    split at h
    · exact absurd h (by decide)
    · rename_i h2
      split at h
      · rename_i h3
        obtain ⟨a1, a2, a3, a4, a5, g, hG, hg, ha⟩ := rU_ok32 hl h3
        have ug := uB_min hG
        rw [hg] at ug
        split at h
        · rename_i h4
          rw [if_pos h1, if_neg h2, if_pos h3, if_pos h4]
          simp only
          have e : pl [] (rU l (0 + 1) 32).1 0 false = ([] ++ [0] ++ uB 9 (rU l (0 + 1) 32).1, 0) := by
            unfold pl
            rw [if_pos ⟨by omega, by omega, by omega, by omega, .inr rfl⟩, if_pos ⟨rfl, rfl⟩]
          rw [e]
          simp only [List.nil_append, List.cons_append, List.length_cons]
          exact ⟨trivial, by omega, by omega⟩
        · rename_i h4
          split at h
          · rename_i h5
            obtain ⟨b1, b2, b3, b4, b5, g2, hG2, hg2, hb⟩ := rU_ok32 hl h5
            have ug2 := uB_min hG2
            rw [hg2] at ug2
            rw [if_pos h1, if_neg h2, if_pos h3, if_neg h4, if_pos h5]
            simp only
            have e : pl [] (rU l (0 + 1) 32).1 (rU l (rU l (0 + 1) 32).2.1 32).1 true = ([] ++ [1] ++ uB 9 (rU l (0 + 1) 32).1 ++ uB 9 (rU l (rU l (0 + 1) 32).2.1 32).1, 0) := by
              unfold pl
              rw [if_pos ⟨by omega, by omega, by omega, by omega, .inl rfl⟩, if_neg (by simp)]
            rw [e]
            simp only [List.nil_append, List.cons_append, List.length_cons, List.length_append]
            exact ⟨trivial, by omega, by omega⟩
          · rename_i h5; exact absurd h h5
      · rename_i h3; exact absurd h h3
  · rename_i h1; exact absurd h h1
theorem TypesTold : avocetlaw04_TypesTold.Pure := by
  intro l _ _ hl
  have hl : allB l := allB_of hl
  refine ⟨50, ?_⟩
  unfold avocetlaw04_TypesTold.f
  rw [awake_f 50 (by omega), Option.bind_some]
  by_cases h1 : (l.length : Int) > 500
  · rw [if_pos h1]
  · have hb : Big l := by show l.length < 1000000000000; omega
    have hj : avocetlaw04_TypesTold.j0 50 l true = some true := by
      simp only [avocetlaw04_TypesTold.j0]
      rw [Limits_f l hl hb, Option.bind_some]
      by_cases h2 : (lm l 0).2.2.2.2 = 0
      · obtain ⟨q1, q2, q3⟩ := lm_ok hl h2
        rw [if_pos h2, PutLimits_f 49 (by omega) [] (by show 0 < 1000000000000; omega), Option.bind_some, if_pos q1, if_neg (by omega), if_neg (by omega)]
      · rw [if_neg h2]
    rw [if_neg h1, Func_f 50 (by omega) l hl hb, Option.bind_some, hj]
    by_cases h2 : (fn l 0).2.2.2 = 0
    · obtain ⟨q1, q2, q3⟩ := fn_ok hl h2
      rw [if_pos h2, PutFunc_f 50 (by omega) [] _ _ (by simp), Option.bind_some, if_pos q1]
      simp only
      rw [if_pos trivial, pf_len, if_neg (by simp only [List.length_nil]; omega), if_neg (by omega)]
    · rw [if_neg h2]
end Go.Proofs.Ythddcbfgdpfcjaa.Pure
