/- The digits of what the operators give. -/
import Derived.Test.YtjonlcnmpejamaaDoorIntsCnt
namespace Go.Proofs.YtjonlcnmpejamaaDoor.Pure
open Go.RowKit Go.Proofs.YtjonlcnmpejamaaDoor.G Go.Proofs.YtjonlcnmpejamaaDoorW.PrintWords Go.Proofs.YtjonlcnmpejamaaDoorW.PrintLast Go.Proofs.YtjonlcnmpejamaaDoorW.PrintMore
set_option linter.unusedVariables false
theorem tb_high (w a i : Nat) (ha : a < 2 ^ w) (h : w ≤ i) : a.testBit i = false := Nat.testBit_lt_two_pow (Nat.lt_of_lt_of_le ha (Nat.pow_le_pow_right (by decide) h))
theorem dig0 (w a n : Nat) (i : Nat) (hi : i < w) : dig 0 w a n i = (a * 2 ^ n % 2 ^ w).testBit i := by
  rw [Nat.testBit_mod_two_pow, Nat.testBit_mul_two_pow, decide_eq_true hi, Bool.true_and]
  rfl
theorem dig2 (w a n : Nat) (ha : a < 2 ^ w) (i : Nat) (hi : i < w) : dig 2 w a n i = (a / 2 ^ n).testBit i := by
  have e : dig 2 w a n i = (decide (i + n < w) && a.testBit (i + n)) := rfl
  rw [e, Nat.testBit_div_two_pow]
  by_cases h : i + n < w
  · rw [decide_eq_true h, Bool.true_and]
  · rw [decide_eq_false h, Bool.false_and, tb_high w a (i + n) ha (by omega)]
theorem rot_bits (w a s i : Nat) (hs : s ≤ w) (ha : a < 2 ^ w) (hi : i < w) : (rotN w a s).testBit i = ((decide (s ≤ i) && a.testBit (i - s)) || a.testBit (i + (w - s))) := by
  rw [← rotN_or w a s hs ha, Nat.testBit_or, Nat.testBit_mod_two_pow, Nat.testBit_mul_two_pow, decide_eq_true hi, Bool.true_and, Nat.testBit_div_two_pow]
theorem dig3 (w a n : Nat) (hn : n < w) (ha : a < 2 ^ w) (i : Nat) (hi : i < w) : dig 3 w a n i = (rotN w a n).testBit i := by
  have e : dig 3 w a n i = (if n ≤ i then a.testBit (i - n) else a.testBit (i + w - n)) := rfl
  rw [e, rot_bits w a n i (by omega) ha hi]
  by_cases h : n ≤ i
  · rw [if_pos h, decide_eq_true h, Bool.true_and, tb_high w a (i + (w - n)) ha (by omega), Bool.or_false]
  · rw [if_neg h, decide_eq_false h, Bool.false_and, Bool.false_or, show i + w - n = i + (w - n) by omega]
theorem dig4 (w a n : Nat) (hn : n < w) (ha : a < 2 ^ w) (i : Nat) (hi : i < w) : dig 4 w a n i = (rotN w a ((w - n) % w)).testBit i := by
  have e : dig 4 w a n i = (if i + n < w then a.testBit (i + n) else a.testBit (i + n - w)) := rfl
  rw [e]
  by_cases z : n = 0
  · subst z
    rw [Nat.sub_zero, Nat.mod_self, rotN_zero w a ha, if_pos (by omega)]
    rfl
  · rw [Nat.mod_eq_of_lt (by omega), rot_bits w a (w - n) i (by omega) ha hi, show w - (w - n) = n by omega]
    by_cases h : i + n < w
    · rw [if_pos h, decide_eq_false (by omega), Bool.false_and, Bool.false_or]
    · rw [if_neg h, decide_eq_true (by omega), Bool.true_and, tb_high w a (i + n) ha (by omega), Bool.or_false, show i + n - w = i - (w - n) by omega]
/-- a moved right by n, with its sign. -/
def sarN (w a n : Nat) : Nat := if a < 2 ^ (w - 1) then a / 2 ^ n else 2 ^ (w - n) * (2 ^ n - 1) + a / 2 ^ n
theorem div_lt_pow (w a n : Nat) (hn : n < w) (ha : a < 2 ^ w) : a / 2 ^ n < 2 ^ (w - n) := by
  rw [Nat.div_lt_iff_lt_mul (Nat.two_pow_pos _), ← Nat.pow_add, show w - n + n = w by omega]
  exact ha
theorem sar_top (w n : Nat) (hn : n < w) : 2 ^ (w - n) * (2 ^ n - 1) + 2 ^ (w - n) = 2 ^ w := by
  have p := Nat.two_pow_pos n
  have e2 : 2 ^ w = 2 ^ (w - n) * 2 ^ n := by rw [← Nat.pow_add]; congr 1; omega
  have e3 : 2 ^ (w - n) * ((2 ^ n - 1) + 1) = 2 ^ (w - n) * (2 ^ n - 1) + 2 ^ (w - n) := by rw [Nat.mul_add, Nat.mul_one]
  rw [e2, ← e3, show 2 ^ n - 1 + 1 = 2 ^ n by omega]
theorem sarN_lt (w a n : Nat) (hn : n < w) (ha : a < 2 ^ w) : sarN w a n < 2 ^ w := by
  unfold sarN
  split
  · exact Nat.lt_of_le_of_lt (Nat.div_le_self _ _) ha
  · have h1 := div_lt_pow w a n hn ha
    have e4 := sar_top w n hn
    generalize 2 ^ (w - n) * (2 ^ n - 1) = P at *
    generalize a / 2 ^ n = D at *
    generalize 2 ^ (w - n) = Q at *
    omega
theorem dig1 (w a n : Nat) (hn : n < w) (ha : a < 2 ^ w) (i : Nat) (hi : i < w) : dig 1 w a n i = (sarN w a n).testBit i := by
  have e : dig 1 w a n i = (if i + n < w then a.testBit (i + n) else a.testBit (w - 1)) := rfl
  rw [e]
  unfold sarN
  by_cases h : a < 2 ^ (w - 1)
  · rw [if_pos h, Nat.testBit_div_two_pow]
    by_cases c : i + n < w
    · rw [if_pos c]
    · rw [if_neg c, tb_high (w - 1) a (w - 1) h (by omega), tb_high w a (i + n) ha (by omega)]
  · have t : a.testBit (w - 1) = true := by
      rw [Nat.testBit_eq_decide_div_mod_eq]
      have q : a / 2 ^ (w - 1) = 1 := by
        have p := Nat.two_pow_pos (w - 1)
        have e2 : 2 ^ w = 2 ^ (w - 1) * 2 := by rw [← Nat.pow_succ]; congr 1; omega
        rw [Nat.div_eq_iff p]
        omega
      rw [q]; rfl
    rw [if_neg h, Nat.testBit_two_pow_mul_add _ (div_lt_pow w a n hn ha)]
    by_cases c : i + n < w
    · rw [if_pos c, if_pos (by omega), Nat.testBit_div_two_pow]
    · rw [if_neg c, if_neg (by omega), t, Nat.testBit_two_pow_sub_one, decide_eq_true (by omega)]
theorem sar_int (w a n : Nat) (hw : 0 < w) (hn : n < w) (ha : a < 2 ^ w) (H M : Int) (hH : H = (2 ^ (w - 1) : Nat)) (hM : M = (2 ^ w : Nat)) (v : Int) (hv : v = if (a : Int) ≥ H then (a : Int) - M else a) : v / 2 ^ n % M = (sarN w a n : Nat) := by
  have lt := sarN_lt w a n hn ha
  unfold sarN at lt ⊢
  by_cases h : a < 2 ^ (w - 1)
  · rw [if_pos h] at lt ⊢
    rw [if_neg (by omega)] at hv
    rw [hv, cast_shr, hM]
    exact Int.emod_eq_of_lt (Int.natCast_nonneg _) (Int.ofNat_lt.2 lt)
  · rw [if_neg h] at lt ⊢
    rw [if_pos (by omega)] at hv
    have e2 : 2 ^ w = 2 ^ (w - n) * 2 ^ n := by rw [← Nat.pow_add]; congr 1; omega
    have hp : (2 : Int) ^ n = ((2 ^ n : Nat) : Int) := by rw [Int.natCast_pow]; rfl
    have pn := Nat.two_pow_pos n
    have e3 : v = (a : Int) + (-((2 ^ (w - n) : Nat) : Int)) * ((2 ^ n : Nat) : Int) := by
      rw [hv, hM, e2, Int.natCast_mul, Int.neg_mul, Int.sub_eq_add_neg]
    rw [e3, hp, Int.add_mul_ediv_right _ _ (by omega), ← Int.natCast_ediv]
    have e4 := sar_top w n hn
    have e5 : ((a / 2 ^ n : Nat) : Int) + -((2 ^ (w - n) : Nat) : Int) = ((2 ^ (w - n) * (2 ^ n - 1) + a / 2 ^ n : Nat) : Int) - M := by
      rw [hM, ← e4, Int.natCast_add, Int.natCast_add]
      generalize ((a / 2 ^ n : Nat) : Int) = D
      generalize ((2 ^ (w - n) * (2 ^ n - 1) : Nat) : Int) = P
      omega
    rw [e5, Int.sub_emod_right, hM]
    exact Int.emod_eq_of_lt (Int.natCast_nonneg _) (Int.ofNat_lt.2 lt)
end Go.Proofs.YtjonlcnmpejamaaDoor.Pure
