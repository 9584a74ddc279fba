/- Package ints in plain words: one total function each for One and Two; the awakening. -/
import Derived.Test.YtjonlcnmpejamaaDoorG2
import Derived.Test.YtjonlcnmpejamaaDoorLebM
namespace Go.Proofs.YtjonlcnmpejamaaDoor.Pure
open Go.RowKit Go.Proofs.YtjonlcnmpejamaaDoor.G Go.Proofs.YtjonlcnmpejamaaDoorW.PrintWords Go.Proofs.YtjonlcnmpejamaaDoorW.PrintLast Go.Proofs.YtjonlcnmpejamaaDoorW.PrintMore
set_option linter.unusedVariables false
set_option linter.unusedSimpArgs false
def cmpV (k a b x y : Int) : Bool := if k = 0 then (a == b) else if k = 1 then (a != b) else if k = 2 then decide (x < y) else if k = 3 then decide (a < b) else if k = 4 then decide (x > y) else if k = 5 then decide (a > b) else if k = 6 then decide (x ≤ y) else if k = 7 then decide (a ≤ b) else if k = 8 then decide (x ≥ y) else decide (a ≥ b)
theorem cmp_f (k a b x y : Int) : ints_compare.f k a b x y = some (cmpV k a b x y) := by
  unfold ints_compare.f cmpV
  simp only [apply_ite some]
def b01 (c : Bool) : Int := if c = true then 1 else 0
theorem truth_f (c : Bool) : ints_truth.f c = some (b01 c) := by cases c <;> rfl
def twoV (op a b : Int) : Int × Int × Bool :=
  if 70 ≤ op ∧ op ≤ 79 then (b01 (cmpV (op - 70) (a % 4294967296) (b % 4294967296) (wrap64 (wrap32 (a % 4294967296))) (wrap64 (wrap32 (b % 4294967296)))), 0, true)
  else if 81 ≤ op ∧ op ≤ 90 then (b01 (cmpV (op - 81) a b (wrap64 a) (wrap64 b)), 0, true)
  else if 106 ≤ op ∧ op ≤ 120 then ((narV (op - 106) (a % 4294967296) (b % 4294967296)).1, (narV (op - 106) (a % 4294967296) (b % 4294967296)).2, true)
  else if 124 ≤ op ∧ op ≤ 138 then ((wideV (op - 124) a b).1, (wideV (op - 124) a b).2, true)
  else (0, 0, false)
theorem two_f (op a b : Int) (h0 : 0 ≤ a) (h1 : a < 18446744073709551616) (h2 : 0 ≤ b) (h3 : b < 18446744073709551616) : ints_Two.f op a b = some (twoV op a b) := by
  unfold ints_Two.f twoV
  rw [if_pos ⟨h0, h1, h2, h3⟩, cmp_f, cmp_f]
  simp only [apply_ite some]
  rfl
def oneV (op a : Int) : Int × Bool :=
  if op = 69 then (b01 (a % 4294967296 == 0), true) else if op = 80 then (b01 (a == 0), true)
  else if op = 103 then (32 - (Lib.bitLen (a % 4294967296).toNat : Int), true)
  else if op = 104 then ((Lib.ctz 32 (a % 4294967296).toNat : Nat), true)
  else if op = 105 then ((Lib.onesCount (a % 4294967296).toNat : Nat), true)
  else if op = 121 then (64 - (Lib.bitLen a.toNat : Int), true)
  else if op = 122 then ((Lib.ctz 64 a.toNat : Nat), true)
  else if op = 123 then ((Lib.onesCount a.toNat : Nat), true)
  else if op = 167 ∨ op = 173 then (a % 4294967296, true)
  else if op = 172 then (IntKind.u64.wrap (wrap64 (wrap32 (a % 4294967296))), true)
  else (0, false)
theorem bitLenAux_le : ∀ f x, Lib.bitLenAux f x ≤ f
  | 0, _ => Nat.le_refl _
  | f + 1, x => by
    unfold Lib.bitLenAux
    have := bitLenAux_le f (x / 2)
    split <;> omega
theorem bitLenAux_le' : ∀ (f g x : Nat), x < 2 ^ g → Lib.bitLenAux f x ≤ g
  | 0, _, _, _ => Nat.zero_le _
  | f + 1, 0, x, h => by
    have : x = 0 := by simpa using h
    subst this
    simp [Lib.bitLenAux]
  | f + 1, g + 1, x, h => by
    unfold Lib.bitLenAux
    have := bitLenAux_le' f g (x / 2) (by rw [Nat.pow_succ] at h; omega)
    split <;> omega
theorem popAux_le : ∀ f x, Lib.popAux f x ≤ f
  | 0, _ => Nat.le_refl _
  | f + 1, x => by
    unfold Lib.popAux
    have := popAux_le f (x / 2)
    omega
theorem ctzFrom_le : ∀ f x, Lib.ctzFrom f x ≤ f
  | 0, _ => Nat.le_refl _
  | f + 1, x => by
    unfold Lib.ctzFrom
    have := ctzFrom_le f (x / 2)
    split <;> omega
theorem ctz_le (f x : Nat) : Lib.ctz f x ≤ f := by
  unfold Lib.ctz
  have := ctzFrom_le f x
  split <;> omega
theorem u64n (n : Nat) (h : n ≤ 100) : IntKind.u64.wrap (n : Int) = n := by rw [wrap_u64_]; omega
theorem one_f (k : Nat) (op a : Int) (h0 : 0 ≤ a) (h1 : a < 18446744073709551616) : ints_One.f (k + 1) op a = some (oneV op a) := by
  have q0 : 0 ≤ a % 4294967296 := by omega
  have q1 : a % 4294967296 < 4294967296 := by omega
  have l32 : Lib.bitLen (a % 4294967296).toNat ≤ 32 := bitLenAux_le' 64 32 _ (by simp only [Nat.reducePow]; omega)
  have l64 : Lib.bitLen a.toNat ≤ 64 := bitLenAux_le 64 _
  have t32 := ctz_le 32 (a % 4294967296).toNat
  have t64 := ctz_le 64 a.toNat
  have o32 : Lib.onesCount (a % 4294967296).toNat ≤ 64 := popAux_le 64 _
  have o64 : Lib.onesCount a.toNat ≤ 64 := popAux_le 64 _
  unfold ints_One.f oneV
  by_cases c1 : op = 69
  · rw [if_pos c1, if_pos c1, truth_f]; rfl
  · rw [if_neg c1, if_neg c1]
    by_cases c2 : op = 80
    · rw [if_pos c2, if_pos c2, truth_f]; rfl
    · rw [if_neg c2, if_neg c2]
      by_cases c3 : op = 103
      · rw [if_pos c3, if_pos c3]
        unfold bits_LeadingZeros32.f bits_Len32.f
        rw [if_pos ⟨q0, by omega⟩]
        simp only [Option.bind_some, Option.some.injEq, Prod.mk.injEq, and_true]
        rw [wrap_u64_]; unfold wrap64; omega
      · rw [if_neg c3, if_neg c3]
        by_cases c4 : op = 104
        · rw [if_pos c4, if_pos c4]
          unfold bits_TrailingZeros32.f
          rw [if_pos ⟨q0, q1⟩]
          simp only [Option.bind_some, Option.some.injEq, Prod.mk.injEq, and_true]
          exact u64n _ (by omega)
        · rw [if_neg c4, if_neg c4]
          by_cases c5 : op = 105
          · rw [if_pos c5, if_pos c5]
            unfold bits_OnesCount32.f
            rw [if_pos ⟨q0, q1⟩]
            simp only [Option.bind_some, Option.some.injEq, Prod.mk.injEq, and_true]
            exact u64n _ (by omega)
          · rw [if_neg c5, if_neg c5]
            by_cases c6 : op = 121
            · rw [if_pos c6, if_pos c6]
              unfold bits_LeadingZeros64.f bits_Len64.f
              rw [if_pos ⟨h0, by omega⟩]
              simp only [Option.bind_some, Option.some.injEq, Prod.mk.injEq, and_true]
              rw [wrap_u64_]; unfold wrap64; omega
            · rw [if_neg c6, if_neg c6]
              by_cases c7 : op = 122
              · rw [if_pos c7, if_pos c7]
                unfold bits_TrailingZeros64.f
                rw [if_pos ⟨h0, h1⟩]
                simp only [Option.bind_some, Option.some.injEq, Prod.mk.injEq, and_true]
                exact u64n _ (by omega)
              · rw [if_neg c7, if_neg c7]
                by_cases c8 : op = 123
                · rw [if_pos c8, if_pos c8]
                  unfold bits_OnesCount64.f
                  rw [if_pos ⟨h0, h1⟩]
                  simp only [Option.bind_some, Option.some.injEq, Prod.mk.injEq, and_true]
                  exact u64n _ (by omega)
                · rw [if_neg c8, if_neg c8]
                  by_cases c9 : op = 167
                  · rw [if_pos c9, if_pos (Or.inl c9)]
                    simp only [ints_One.j0]
                    rw [if_pos (by simp [c9])]
                    simp
                  · rw [if_neg c9]
                    simp only [ints_One.j0]
                    by_cases c10 : op = 173
                    · rw [if_pos (by simp [c10]), if_pos (Or.inr c10)]
                      simp
                    · rw [if_neg (by simp [c10]), if_neg (show ¬ (op = 167 ∨ op = 173) from fun h => h.elim c9 c10)]
                      by_cases c11 : op = 172
                      · rw [if_pos c11, if_pos c11]
                      · rw [if_neg c11, if_neg c11]
theorem awake_yes (k : Nat) : avocetlaw02_awake.f (k + 1) = some true := by
  unfold avocetlaw02_awake.f
  rw [two_f 109 4294967289 2 (by omega) (by omega) (by omega) (by omega), two_f 111 4294967289 2 (by omega) (by omega) (by omega) (by omega), one_f k 103 1 (by omega) (by omega)]
  decide +kernel
end Go.Proofs.YtjonlcnmpejamaaDoor.Pure
