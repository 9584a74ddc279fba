/- TypesVals: a value's type is read where it stands. -/
import Derived.Test.YthddcbfgdpfcjaaG3
import Derived.Test.YthddcbfgdpfcjaaTyA
import Derived.Test.YthddcbfgdpfcjaaLebM
set_option linter.unusedVariables false
set_option linter.unusedSimpArgs false
namespace Go.Proofs.Ythddcbfgdpfcjaa.Pure
open Go.RowKit Go.Proofs.Ythddcbfgdpfcjaa.G Go.Proofs.YthddcbfgdpfcjaaW.PrintWords Go.Proofs.YthddcbfgdpfcjaaW.PrintLast Go.Proofs.Ythddcbfgdpfcjaa.TyA
theorem next_in (k : Nat) (l : List Int) (i : Nat) (h : i < l.length) : types_next.f (k + 1) l (i : Int) = some (rd l (i : Int), 0) := by
  unfold types_next.f
  rw [if_neg (by omega)]
  have : decide ((i : Int) > (l.length : Int)) = false := decide_eq_false (by omega)
  rw [this]
  simp only [types_next.j0]
  rw [if_neg (by simp), if_neg (by omega), if_pos (by omega), if_pos (by omega)]
theorem next_end (k : Nat) (l : List Int) : types_next.f (k + 1) l (l.length : Int) = some (0, 2) := by
  unfold types_next.f
  rw [if_neg (by omega)]
  have : decide ((l.length : Int) > (l.length : Int)) = false := decide_eq_false (by omega)
  rw [this]
  simp only [types_next.j0]
  rw [if_neg (by simp), if_pos trivial]
theorem val_f (c : Int) : types_val.f c = some (decide (c = 127) || decide (c = 126)) := by
  unfold types_val.f
  by_cases h : c = 127
  · rw [if_pos h]; simp [h]
  · rw [if_neg h]; simp [h]; rfl
theorem Val_in (k : Nat) (l : List Int) (i : Nat) (h : i < l.length) (hs : i < 1000000000) : types_Val.f (k + 1) l (i : Int) = some (if rd l (i : Int) = 127 ∨ rd l (i : Int) = 126 then (rd l (i : Int), (i : Int) + 1, 0) else (0, 0, 3)) := by
  have h64 : wrap64 ((i : Int) + 1) = (i : Int) + 1 := by unfold wrap64; omega
  unfold types_Val.f
  rw [next_in k l i h, Option.bind_some, if_pos rfl, val_f, Option.bind_some]
  by_cases hv : rd l (i : Int) = 127 ∨ rd l (i : Int) = 126
  · rw [if_pos hv, if_pos (by simpa using hv), h64]
  · rw [if_neg hv, if_neg (by simpa using hv)]
theorem Val_end (k : Nat) (l : List Int) : types_Val.f (k + 1) l (l.length : Int) = some (0, 0, 2) := by
  unfold types_Val.f
  rw [next_end, Option.bind_some, if_neg (by decide)]
theorem TypesVals : avocetlaw04_TypesVals.Pure := by
  intro l c hm _ hl hc
  refine ⟨30, ?_⟩
  unfold avocetlaw04_TypesVals.f
  rw [awake_f 30 (by omega), Option.bind_some]
  by_cases h1 : (l.length : Int) > 100
  · rw [if_pos h1]
  · rw [if_neg h1, Option.bind_some, if_pos (by simp; omega), Option.bind_some, if_pos (by simp; omega), Option.bind_some]
    have e : ([] : List Int) ++ l ++ [c] = l ++ [c] := by simp
    have hr : rd (l ++ [c]) (l.length : Int) = c := by simp [rd]
    have hlen : (l ++ [c]).length = l.length + 1 := by simp
    rw [e, Val_in 29 (l ++ [c]) l.length (by omega) (by omega), Option.bind_some, hr, Val_end, Option.bind_some, hlen]
    by_cases h2 : c = 126
    · simp [h2]
    · rw [if_neg h2]
      by_cases h3 : c = 127
      · simp [h3]
      · simp [h2, h3]
end Go.Proofs.Ythddcbfgdpfcjaa.Pure
