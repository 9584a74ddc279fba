/- The document's moving of digits, digit by digit. -/
import Derived.Test.YtjonlcnmpejamaaDoorIntsRef
namespace Go.Proofs.YtjonlcnmpejamaaDoor.Pure
open Go.RowKit Go.Proofs.YtjonlcnmpejamaaDoor.G Go.Proofs.YtjonlcnmpejamaaDoorW.PrintWords Go.Proofs.YtjonlcnmpejamaaDoorW.PrintLast Go.Proofs.YtjonlcnmpejamaaDoorW.PrintMore
set_option linter.unusedVariables false
theorem tb_nat (x j : Nat) : (x.testBit j).toNat = x / 2 ^ j % 2 := by
  rw [Nat.testBit_eq_decide_div_mod_eq]
  have b : x / 2 ^ j % 2 < 2 := Nat.mod_lt _ (by decide)
  by_cases h : x / 2 ^ j % 2 = 1
  · rw [decide_eq_true h, h]; rfl
  · rw [decide_eq_false h]
    show 0 = _
    omega
theorem bit_f (x j : Nat) (hx : x < 18446744073709551616) (hj : j < 64) : avocetref02_bit.f x j = some (((x.testBit j).toNat : Nat) : Int) := by
  have e : IntKind.u64.wrap (j : Int) = j := wnat j (by omega)
  have m : min ((j : Int).toNat) IntKind.u64.bits = j := by
    rw [Int.toNat_natCast]
    exact Nat.min_eq_left (show j ≤ 64 by omega)
  unfold avocetref02_bit.f shr
  rw [e, if_pos (by omega), m, cast_shr]
  have t : Int.tmod ((x / 2 ^ j : Nat) : Int) 2 = ((x / 2 ^ j % 2 : Nat) : Int) := rfl
  rw [t, Nat.testBit_eq_decide_div_mod_eq]
  have b : x / 2 ^ j % 2 < 2 := Nat.mod_lt _ (by decide)
  have c : (decide (x / 2 ^ j % 2 = 1)).toNat = x / 2 ^ j % 2 := by
    by_cases h : x / 2 ^ j % 2 = 1
    · rw [decide_eq_true h, h]; rfl
    · rw [decide_eq_false h]
      show 0 = _
      omega
  rw [c]
  generalize x / 2 ^ j % 2 = q at *
  congr 1
  unfold wrap64
  omega
theorem t_end (K : Nat) (what a n w : Int) (v i : Nat) (d : Bool) (hi : i < 64) (hv : v + d.toNat * 2 ^ i < 18446744073709551616) :
    (if 0 ≤ IntKind.u64.wrap (i : Int) then avocetref02_turned.l0 K what a n w (IntKind.u64.wrap ((v : Int) + shl .u64 (IntKind.u64.wrap ((d.toNat : Nat) : Int)) (IntKind.u64.wrap (i : Int)))) (wrap64 ((i : Int) + 1)) else none) = avocetref02_turned.l0 K what a n w ((v + d.toNat * 2 ^ i : Nat) : Int) ((i + 1 : Nat) : Int) := by
  have e : IntKind.u64.wrap (i : Int) = i := wnat i (by omega)
  have hd : d.toNat ≤ 1 := by cases d <;> decide
  have e2 : IntKind.u64.wrap ((d.toNat : Nat) : Int) = ((d.toNat : Nat) : Int) := wnat _ (by omega)
  have m : min ((i : Int).toNat) IntKind.u64.bits = i := by
    rw [Int.toNat_natCast]
    exact Nat.min_eq_left (show i ≤ 64 by omega)
  have e3 : shl .u64 ((d.toNat : Nat) : Int) (i : Int) = ((d.toNat * 2 ^ i : Nat) : Int) := by
    unfold shl
    rw [m, ← wnat (d.toNat * 2 ^ i) (by omega), Int.natCast_mul, Int.natCast_pow]
    rfl
  have e4 : wrap64 ((i : Int) + 1) = ((i + 1 : Nat) : Int) := by unfold wrap64; omega
  rw [e, if_pos (by omega), e2, e3, e4]
  have e5 : IntKind.u64.wrap ((v : Int) + ((d.toNat * 2 ^ i : Nat) : Int)) = ((v + d.toNat * 2 ^ i : Nat) : Int) := by
    rw [← wnat (v + d.toNat * 2 ^ i) hv, Int.natCast_add]
  rw [e5]
theorem j3_in (K : Nat) (what n w : Int) (a v i f : Nat) (ha : a < 18446744073709551616) (hf : f < 64) (hi : i < 64) (hv : v + (a.testBit f).toNat * 2 ^ i < 18446744073709551616) : avocetref02_turned.j3 (K + 1) what a n w v i f 0 true = avocetref02_turned.l0 K what a n w ((v + (a.testBit f).toNat * 2 ^ i : Nat) : Int) ((i + 1 : Nat) : Int) := by
  simp only [avocetref02_turned.j3]
  rw [if_pos trivial, bit_f a f ha hf, Option.bind_some]
  exact t_end K what a n w v i _ hi hv
theorem j3_sign (K : Nat) (n : Int) (w a v i : Nat) (f : Int) (ha : a < 18446744073709551616) (hw : 0 < w ∧ w ≤ 64) (hi : i < 64) (hv : v + (a.testBit (w - 1)).toNat * 2 ^ i < 18446744073709551616) : avocetref02_turned.j3 (K + 1) 1 a n w v i f 0 false = avocetref02_turned.l0 K 1 a n w ((v + (a.testBit (w - 1)).toNat * 2 ^ i : Nat) : Int) ((i + 1 : Nat) : Int) := by
  simp only [avocetref02_turned.j3]
  rw [if_neg (by decide), if_pos trivial, show wrap64 ((w : Int) - 1) = ((w - 1 : Nat) : Int) by unfold wrap64; omega, bit_f a (w - 1) ha (by omega), Option.bind_some]
  exact t_end K 1 a n w v i _ hi hv
theorem j3_rot (K : Nat) (what n : Int) (w a v i g : Nat) (f : Int) (h3 : what ≥ 3) (ha : a < 18446744073709551616) (hw : 0 < w ∧ w ≤ 64) (hf : Int.tmod (wrap64 (f + w)) w = g) (hg : g < 64) (hi : i < 64) (hv : v + (a.testBit g).toNat * 2 ^ i < 18446744073709551616) : avocetref02_turned.j3 (K + 1) what a n w v i f 0 false = avocetref02_turned.l0 K what a n w ((v + (a.testBit g).toNat * 2 ^ i : Nat) : Int) ((i + 1 : Nat) : Int) := by
  simp only [avocetref02_turned.j3]
  rw [if_neg (by decide), if_neg (by omega), if_pos h3, if_neg (by omega), hf, bit_f a g ha hg, Option.bind_some]
  exact t_end K what a n w v i _ hi hv
theorem j3_none (K : Nat) (what n w : Int) (a v i : Nat) (f : Int) (h : what = 0 ∨ what = 2) (hi : i < 64) (hv : v + (false).toNat * 2 ^ i < 18446744073709551616) : avocetref02_turned.j3 (K + 1) what a n w v i f 0 false = avocetref02_turned.l0 K what a n w ((v + (false).toNat * 2 ^ i : Nat) : Int) ((i + 1 : Nat) : Int) := by
  simp only [avocetref02_turned.j3]
  rw [if_neg (by decide), if_neg (by omega), if_neg (by omega)]
  exact t_end K what a n w v i false hi hv
theorem j2_f (K : Nat) (what a n w v i f : Int) : avocetref02_turned.j2 (K + 1) what a n w v i f = avocetref02_turned.j3 K what a n w v i f 0 (decide (0 ≤ f ∧ f < w)) := by
  simp only [avocetref02_turned.j2]
  by_cases h : f ≥ 0
  · rw [if_pos h]
    congr 1
    exact decide_eq_decide.mpr ⟨fun g => ⟨h, g⟩, fun g => g.2⟩
  · rw [if_neg h]
    congr 1
    exact (decide_eq_false (fun g => h g.1)).symm
/-- The way of a turn to its digit. -/
theorem l0_f (K : Nat) (what : Int) (a n w v i : Nat) (hw : w ≤ 64) (hn : n < w) (hi : i < w) : avocetref02_turned.l0 (K + 4) what a n w v i = avocetref02_turned.j3 (K + 1) what a n w v i (if what = 0 ∨ what = 3 then (i : Int) - n else (i : Int) + n) 0 (decide (0 ≤ (if what = 0 ∨ what = 3 then (i : Int) - n else (i : Int) + n) ∧ (if what = 0 ∨ what = 3 then (i : Int) - n else (i : Int) + n) < w)) := by
  have e1 : wrap64 ((i : Int) + n) = (i : Int) + n := by unfold wrap64; omega
  have e2 : wrap64 ((i : Int) - n) = (i : Int) - n := by unfold wrap64; omega
  simp only [avocetref02_turned.l0]
  rw [if_pos (show (i : Int) < w by omega), e1]
  by_cases h0 : what = 0
  · rw [if_pos h0]
    simp only [avocetref02_turned.j1]
    rw [if_pos trivial, e2, j2_f]
    rw [if_pos (Or.inl h0)]
  · rw [if_neg h0]
    by_cases h3 : what = 3
    · rw [beq_iff_eq.mpr h3]
      simp only [avocetref02_turned.j1]
      rw [if_pos trivial, e2, j2_f]
      rw [if_pos (Or.inr h3)]
    · rw [beq_eq_false_iff_ne.mpr h3]
      simp only [avocetref02_turned.j1]
      rw [if_neg (by decide), j2_f]
      rw [if_neg (show ¬ (what = 0 ∨ what = 3) by omega)]
/-- The digit at i. -/
def dig (what : Int) (w a n i : Nat) : Bool :=
  if what = 0 then (decide (n ≤ i) && a.testBit (i - n)) else if what = 1 then (if i + n < w then a.testBit (i + n) else a.testBit (w - 1)) else if what = 2 then (decide (i + n < w) && a.testBit (i + n))
  else if what = 3 then (if n ≤ i then a.testBit (i - n) else a.testBit (i + w - n)) else (if i + n < w then a.testBit (i + n) else a.testBit (i + n - w))
theorem tur_step (K : Nat) (what : Int) (w a n v i : Nat) (hwh : 0 ≤ what ∧ what ≤ 4) (hw : w ≤ 64) (hn : n < w) (hi : i < w) (ha : a < 18446744073709551616) (hv : v + (dig what w a n i).toNat * 2 ^ i < 18446744073709551616) :
    avocetref02_turned.l0 (K + 4) what a n w v i = avocetref02_turned.l0 K what a n w ((v + (dig what w a n i).toNat * 2 ^ i : Nat) : Int) ((i + 1 : Nat) : Int) := by
  rw [l0_f K what a n w v i hw hn hi]
  obtain rfl | rfl | rfl | rfl | rfl : what = 0 ∨ what = 1 ∨ what = 2 ∨ what = 3 ∨ what = 4 := by omega
  · have e : dig 0 w a n i = (decide (n ≤ i) && a.testBit (i - n)) := rfl
    rw [e] at hv ⊢
    rw [if_pos (Or.inl rfl)]
    by_cases h : n ≤ i
    · rw [decide_eq_true (show 0 ≤ (i : Int) - n ∧ (i : Int) - n < w by omega), show (i : Int) - n = ((i - n : Nat) : Int) by omega]
      rw [decide_eq_true h, Bool.true_and] at hv ⊢
      exact j3_in K 0 n w a v i (i - n) ha (by omega) (by omega) hv
    · rw [decide_eq_false (show ¬ (0 ≤ (i : Int) - n ∧ (i : Int) - n < w) by omega)]
      rw [decide_eq_false h, Bool.false_and] at hv ⊢
      exact j3_none K 0 n w a v i _ (Or.inl rfl) (by omega) hv
  · have e : dig 1 w a n i = (if i + n < w then a.testBit (i + n) else a.testBit (w - 1)) := rfl
    rw [e] at hv ⊢
    rw [if_neg (by decide)]
    by_cases h : i + n < w
    · rw [decide_eq_true (show 0 ≤ (i : Int) + n ∧ (i : Int) + n < w by omega), show (i : Int) + n = ((i + n : Nat) : Int) by omega]
      rw [if_pos h] at hv ⊢
      exact j3_in K 1 n w a v i (i + n) ha (by omega) (by omega) hv
    · rw [decide_eq_false (show ¬ (0 ≤ (i : Int) + n ∧ (i : Int) + n < w) by omega)]
      rw [if_neg h] at hv ⊢
      exact j3_sign K n w a v i _ ha (by omega) (by omega) hv
  · have e : dig 2 w a n i = (decide (i + n < w) && a.testBit (i + n)) := rfl
    rw [e] at hv ⊢
    rw [if_neg (by decide)]
    by_cases h : i + n < w
    · rw [decide_eq_true (show 0 ≤ (i : Int) + n ∧ (i : Int) + n < w by omega), show (i : Int) + n = ((i + n : Nat) : Int) by omega]
      rw [decide_eq_true h, Bool.true_and] at hv ⊢
      exact j3_in K 2 n w a v i (i + n) ha (by omega) (by omega) hv
    · rw [decide_eq_false (show ¬ (0 ≤ (i : Int) + n ∧ (i : Int) + n < w) by omega)]
      rw [decide_eq_false h, Bool.false_and] at hv ⊢
      exact j3_none K 2 n w a v i _ (Or.inr rfl) (by omega) hv
  · have e : dig 3 w a n i = (if n ≤ i then a.testBit (i - n) else a.testBit (i + w - n)) := rfl
    rw [e] at hv ⊢
    rw [if_pos (Or.inr rfl)]
    by_cases h : n ≤ i
    · rw [decide_eq_true (show 0 ≤ (i : Int) - n ∧ (i : Int) - n < w by omega), show (i : Int) - n = ((i - n : Nat) : Int) by omega]
      rw [if_pos h] at hv ⊢
      exact j3_in K 3 n w a v i (i - n) ha (by omega) (by omega) hv
    · rw [decide_eq_false (show ¬ (0 ≤ (i : Int) - n ∧ (i : Int) - n < w) by omega)]
      rw [if_neg h] at hv ⊢
      refine j3_rot K 3 n w a v i (i + w - n) _ (by decide) ha (by omega) ?_ (by omega) (by omega) hv
      rw [show wrap64 ((i : Int) - n + w) = ((i + w - n : Nat) : Int) by unfold wrap64; omega, Int.tmod_eq_emod_of_nonneg (by omega)]
      exact Int.emod_eq_of_lt (by omega) (by omega)
  · have e : dig 4 w a n i = (if i + n < w then a.testBit (i + n) else a.testBit (i + n - w)) := rfl
    rw [e] at hv ⊢
    rw [if_neg (by decide)]
    by_cases h : i + n < w
    · rw [decide_eq_true (show 0 ≤ (i : Int) + n ∧ (i : Int) + n < w by omega), show (i : Int) + n = ((i + n : Nat) : Int) by omega]
      rw [if_pos h] at hv ⊢
      exact j3_in K 4 n w a v i (i + n) ha (by omega) (by omega) hv
    · rw [decide_eq_false (show ¬ (0 ≤ (i : Int) + n ∧ (i : Int) + n < w) by omega)]
      rw [if_neg h] at hv ⊢
      refine j3_rot K 4 n w a v i (i + n - w) _ (by decide) ha (by omega) ?_ (by omega) (by omega) hv
      rw [show wrap64 ((i : Int) + n + w) = ((i + n - w : Nat) : Int) + w + w by unfold wrap64; omega, Int.tmod_eq_emod_of_nonneg (by omega), Int.add_emod_right, Int.add_emod_right]
      exact Int.emod_eq_of_lt (by omega) (by omega)
theorem tur_loop (what : Int) (w a n T : Nat) (hwh : 0 ≤ what ∧ what ≤ 4) (hw : w ≤ 64) (hn : n < w) (ha : a < 18446744073709551616) (hT : T < 2 ^ w) (hd : ∀ i, i < w → dig what w a n i = T.testBit i) : ∀ (d i K : Nat), i + d = w → avocetref02_turned.l0 (K + 4 * d + 1) what a n w ((T % 2 ^ i : Nat) : Int) (i : Int) = some (T : Int)
  | 0, i, K, e => by
    obtain rfl : i = w := by omega
    simp only [avocetref02_turned.l0]
    rw [if_neg (by omega), Nat.mod_eq_of_lt hT]
  | d + 1, i, K, e => by
    have s : T % 2 ^ (i + 1) = T % 2 ^ i + (dig what w a n i).toNat * 2 ^ i := by
      rw [hd i (by omega), tb_nat, Nat.mod_pow_succ, Nat.mul_comm]
    have b : T % 2 ^ (i + 1) < 18446744073709551616 := Nat.lt_of_le_of_lt (Nat.mod_le _ _) (Nat.lt_of_lt_of_le hT (show 2 ^ w ≤ 2 ^ 64 from Nat.pow_le_pow_right (by decide) hw))
    rw [s] at b
    rw [show K + 4 * (d + 1) + 1 = (K + 4 * d + 1) + 4 by omega, tur_step (K + 4 * d + 1) what w a n (T % 2 ^ i) i hwh hw hn (by omega) ha b, ← s]
    exact tur_loop what w a n T hwh hw hn ha hT hd d (i + 1) K (by omega)
theorem turned_f (what : Int) (w a n T K : Nat) (hwh : 0 ≤ what ∧ what ≤ 4) (hw : w ≤ 64) (hn : n < w) (ha : a < 18446744073709551616) (hT : T < 2 ^ w) (hd : ∀ i, i < w → dig what w a n i = T.testBit i) : avocetref02_turned.f (K + 4 * w + 1) what a n w = some (T : Int) := by
  have h := tur_loop what w a n T hwh hw hn ha hT hd w 0 K (by omega)
  rw [Nat.pow_zero, Nat.mod_one] at h
  exact h
end Go.Proofs.YtjonlcnmpejamaaDoor.Pure
