/- Package frames' stacks: Enter. -/
import Derived.Test.YtbbgkelcdooabaaFraC
import Derived.Test.YtbbgkelcdooabaaZer
namespace Go.Proofs.Ytbbgkelcdooabaa.G
open Go.RowKit Go.Proofs.YtbbgkelcdooabaaW.PrintWords Go.Proofs.YtbbgkelcdooabaaW.PrintLast Go.Proofs.YtbbgkelcdooabaaW.PrintMore
set_option linter.unusedVariables false
set_option linter.unusedSimpArgs false
theorem fsC_push (v : Value) (z : List (Fm × Value)) (r : Int) (x : Fm × Value) (n : Nat) (hz : z.length = n) (hn : n < 64) :
    ((((((fsC v z r).setIfInBounds (1 + n * 4) (.int .i64 x.1.f)).setIfInBounds (1 + n * 4 + 1) (.int .i64 x.1.pc)).setIfInBounds (1 + n * 4 + 2) x.2).setIfInBounds (1 + n * 4 + 3) (.int .i64 x.1.base)).setIfInBounds 257 (.int .i64 ((n + 1 : Nat) : Int))) = fsC v (z ++ [x]) r := by
  refine fsC_ext (by simp [fsC]) (fun i hi => ?_)
  simp only [Array.getElem?_setIfInBounds, Array.size_setIfInBounds, fsC_size]
  unfold cellAt
  by_cases h257 : i = 257
  · subst h257
    simp [hz]
  · rw [if_neg (by omega)]
    by_cases h0 : i = 0
    · subst h0
      rw [if_neg (by omega), if_neg (by omega), if_neg (by omega), if_neg (by omega), fsC_at _ _ _ _ hi, if_pos rfl]; rfl
    · by_cases h258 : i = 258
      · subst h258
        rw [if_neg (by omega), if_neg (by omega), if_neg (by omega), if_neg (by omega), fsC_at _ _ _ _ hi]; rfl
      · rw [if_neg h0, if_neg h257, if_neg h258]
        by_cases hk : (i - 1) / 4 = n
        · rw [hk, List.getElem?_append_right (by omega), hz, Nat.sub_self]
          have hj : (i - 1) % 4 < 4 := Nat.mod_lt _ (by omega)
          have h4 : (i - 1) % 4 = 0 ∨ (i - 1) % 4 = 1 ∨ (i - 1) % 4 = 2 ∨ (i - 1) % 4 = 3 := by omega
          rcases h4 with h | h | h | h <;> rw [h]
          · rw [if_neg (by omega), if_neg (by omega), if_neg (by omega), if_pos (by omega), if_pos (by omega)]; rfl
          · rw [if_neg (by omega), if_neg (by omega), if_pos (by omega), if_pos (by omega)]; rfl
          · rw [if_neg (by omega), if_pos (by omega), if_pos (by omega)]; rfl
          · rw [if_pos (by omega), if_pos (by omega)]; rfl
        · rw [if_neg (by omega), if_neg (by omega), if_neg (by omega), if_neg (by omega), fsC_at _ _ _ _ hi]
          unfold cellAt
          rw [if_neg h0, if_neg h257, if_neg h258]
          congr 4
          by_cases hlt : (i - 1) / 4 < n
          · rw [List.getElem?_append_left (by omega)]
          · rw [List.getElem?_eq_none (by omega), List.getElem?_eq_none (by simp; omega)]
theorem fsC_pop (v : Value) (z : List (Fm × Value)) (r : Int) (x : Fm × Value) (n : Nat) (hz : z.length = n) (hn : n < 64) :
    ((((((fsC v (z ++ [x]) r).setIfInBounds 257 (.int .i64 (n : Int))).setIfInBounds (1 + n * 4) (.int .i64 0)).setIfInBounds (1 + n * 4 + 1) (.int .i64 0)).setIfInBounds (1 + n * 4 + 2) (.slice none 0 0)).setIfInBounds (1 + n * 4 + 3) (.int .i64 0)) = fsC v z r := by
  refine fsC_ext (by simp [fsC]) (fun i hi => ?_)
  simp only [Array.getElem?_setIfInBounds, Array.size_setIfInBounds, fsC_size]
  unfold cellAt
  by_cases h257 : i = 257
  · subst h257
    rw [if_neg (by omega), if_neg (by omega), if_neg (by omega), if_neg (by omega)]
    simp [hz]
  · by_cases h0 : i = 0
    · subst h0
      rw [if_neg (by omega), if_neg (by omega), if_neg (by omega), if_neg (by omega), if_neg (by omega), fsC_at _ _ _ _ hi, if_pos rfl]; rfl
    · by_cases h258 : i = 258
      · subst h258
        rw [if_neg (by omega), if_neg (by omega), if_neg (by omega), if_neg (by omega), if_neg (by omega), fsC_at _ _ _ _ hi]; rfl
      · rw [if_neg h0, if_neg h257, if_neg h258]
        by_cases hk : (i - 1) / 4 = n
        · rw [hk, List.getElem?_eq_none (by omega)]
          have h4 : (i - 1) % 4 = 0 ∨ (i - 1) % 4 = 1 ∨ (i - 1) % 4 = 2 ∨ (i - 1) % 4 = 3 := by omega
          rcases h4 with h | h | h | h <;> rw [h]
          · rw [if_neg (by omega), if_neg (by omega), if_neg (by omega), if_pos (by omega), if_pos (by omega)]; rfl
          · rw [if_neg (by omega), if_neg (by omega), if_pos (by omega), if_pos (by omega)]; rfl
          · rw [if_neg (by omega), if_pos (by omega), if_pos (by omega)]; rfl
          · rw [if_pos (by omega), if_pos (by omega)]; rfl
        · rw [if_neg (by omega), if_neg (by omega), if_neg (by omega), if_neg (by omega), if_neg (by omega), fsC_at _ _ _ _ hi]
          unfold cellAt
          rw [if_neg h0, if_neg h257, if_neg h258]
          congr 4
          by_cases hlt : (i - 1) / 4 < n
          · rw [List.getElem?_append_left (by omega)]
          · rw [List.getElem?_eq_none (by simp; omega), List.getElem?_eq_none (by omega)]
theorem fsC_pc (v : Value) (z : List (Fm × Value)) (r : Int) (x : Fm × Value) (n : Nat) (hz : z.length = n) (hn : n < 64) (pc : Int) :
    ((fsC v (z ++ [x]) r).setIfInBounds (1 + n * 4 + 1) (.int .i64 pc)) = fsC v (z ++ [({ x.1 with pc := pc }, x.2)]) r := by
  refine fsC_ext (by simp [fsC]) (fun i hi => ?_)
  simp only [Array.getElem?_setIfInBounds, Array.size_setIfInBounds, fsC_size]
  by_cases hi1 : 1 + n * 4 + 1 = i
  · rw [if_pos hi1, if_pos (by omega)]
    unfold cellAt
    rw [if_neg (by omega), if_neg (by omega), if_neg (by omega), show (i - 1) / 4 = n by omega, show (i - 1) % 4 = 1 by omega, List.getElem?_append_right (by omega), hz, Nat.sub_self]
    rfl
  · rw [if_neg hi1, fsC_at _ _ _ _ hi]
    unfold cellAt
    by_cases h0 : i = 0
    · rw [if_pos h0, if_pos h0]
    · rw [if_neg h0, if_neg h0]
      by_cases h257 : i = 257
      · rw [if_pos h257, if_pos h257]; simp
      · rw [if_neg h257, if_neg h257]
        by_cases h258 : i = 258
        · rw [if_pos h258, if_pos h258]
        · rw [if_neg h258, if_neg h258]
          by_cases hk : (i - 1) / 4 = n
          · rw [hk, List.getElem?_append_right (by omega), List.getElem?_append_right (by omega), hz, Nat.sub_self]
            have h4 : (i - 1) % 4 = 0 ∨ (i - 1) % 4 = 2 ∨ (i - 1) % 4 = 3 := by omega
            rcases h4 with h | h | h <;> rw [h] <;> rfl
          · congr 4
            by_cases hlt : (i - 1) / 4 < n
            · rw [List.getElem?_append_left (by omega), List.getElem?_append_left (by omega)]
            · rw [List.getElem?_eq_none (by simp; omega), List.getElem?_eq_none (by simp; omega)]
end Go.Proofs.Ytbbgkelcdooabaa.G
