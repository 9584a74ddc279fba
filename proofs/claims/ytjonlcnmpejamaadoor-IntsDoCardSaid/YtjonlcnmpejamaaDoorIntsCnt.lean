/- The document's counting of digits, digit by digit. -/
import Derived.Test.YtjonlcnmpejamaaDoorIntsTur
import Derived.Test.YtjonlcnmpejamaaDoorPureIntsCount
namespace Go.Proofs.YtjonlcnmpejamaaDoor.Pure
open Go.RowKit Go.Proofs.YtjonlcnmpejamaaDoor.G Go.Proofs.YtjonlcnmpejamaaDoorW.PrintWords Go.Proofs.YtjonlcnmpejamaaDoorW.PrintLast Go.Proofs.YtjonlcnmpejamaaDoorW.PrintMore
set_option linter.unusedVariables false
theorem w_inc (i : Nat) (h : i < 100) : wrap64 ((i : Int) + 1) = ((i + 1 : Nat) : Int) ∧ IntKind.u64.wrap ((i : Int) + 1) = ((i + 1 : Nat) : Int) := by
  rw [wrap_u64_]; unfold wrap64; omega
theorem bitLen_lo : ∀ (f d x : Nat), d < f → 2 ^ d ≤ x → d + 1 ≤ Lib.bitLenAux f x
  | 0, d, x, h, _ => by omega
  | f + 1, d, x, h, hx => by
    have p := Nat.two_pow_pos d
    unfold Lib.bitLenAux
    rw [if_neg (by omega)]
    cases d with
    | zero => omega
    | succ d =>
      have := bitLen_lo f d (x / 2) (by omega) (by rw [Nat.pow_succ] at hx; omega)
      omega
theorem clz_step (K : Nat) (v w i : Nat) (hv : v < 18446744073709551616) (hw : w ≤ 64) (hi : i < w) : avocetref02_counted.l0 (K + 3) 0 v w i i = if v.testBit (w - 1 - i) = true then some (i : Int) else avocetref02_counted.l0 K 0 v w ((i + 1 : Nat) : Int) ((i + 1 : Nat) : Int) := by
  have ⟨e1, e2⟩ := w_inc i (by omega)
  have e3 : wrap64 (wrap64 ((w : Int) - 1) - i) = ((w - 1 - i : Nat) : Int) := by unfold wrap64; omega
  simp only [avocetref02_counted.l0]
  rw [if_pos (by omega), if_pos trivial, e3]
  simp only [avocetref02_counted.j1]
  rw [bit_f v (w - 1 - i) hv (by omega), Option.bind_some]
  cases v.testBit (w - 1 - i)
  · rw [if_pos (show ((false.toNat : Nat) : Int) = 0 from rfl), if_neg (by decide)]
    simp only [avocetref02_counted.j2]
    rw [if_pos (by decide), e1, e2]
  · rw [if_neg (by decide), if_pos rfl]
    simp only [avocetref02_counted.j2]
    rw [if_neg (by decide), if_pos (by decide)]
theorem ctz_step (K : Nat) (v w i : Nat) (hv : v < 18446744073709551616) (hw : w ≤ 64) (hi : i < w) : avocetref02_counted.l0 (K + 3) 1 v w i i = if v.testBit i = true then some (i : Int) else avocetref02_counted.l0 K 1 v w ((i + 1 : Nat) : Int) ((i + 1 : Nat) : Int) := by
  have ⟨e1, e2⟩ := w_inc i (by omega)
  simp only [avocetref02_counted.l0]
  rw [if_pos (by omega), if_neg (by decide)]
  simp only [avocetref02_counted.j1]
  rw [bit_f v i hv (by omega), Option.bind_some]
  cases v.testBit i
  · rw [if_pos (show ((false.toNat : Nat) : Int) = 0 from rfl), if_neg (by decide)]
    simp only [avocetref02_counted.j2]
    rw [if_pos (by decide), e1, e2]
  · rw [if_neg (by decide), if_pos rfl]
    simp only [avocetref02_counted.j2]
    rw [if_neg (by decide), if_pos (by decide)]
theorem pop_step (K : Nat) (v w n i : Nat) (hv : v < 18446744073709551616) (hw : w ≤ 64) (hi : i < w) (hn : n ≤ 64) : avocetref02_counted.l0 (K + 3) 2 v w n i = avocetref02_counted.l0 K 2 v w ((n + (v.testBit i).toNat : Nat) : Int) ((i + 1 : Nat) : Int) := by
  have ⟨e1, _⟩ := w_inc i (by omega)
  have ⟨_, e2⟩ := w_inc n (by omega)
  simp only [avocetref02_counted.l0]
  rw [if_pos (by omega), if_neg (by decide)]
  simp only [avocetref02_counted.j1]
  rw [bit_f v i hv (by omega), Option.bind_some]
  cases h : v.testBit i
  · rw [if_pos (show ((false.toNat : Nat) : Int) = 0 from rfl)]
    simp only [avocetref02_counted.j2]
    rw [if_neg (by decide), if_neg (by decide), bit_f v i hv (by omega), Option.bind_some, h, if_neg (by decide), e1]
    rfl
  · rw [if_neg (by decide)]
    simp only [avocetref02_counted.j2]
    rw [if_neg (by decide), if_neg (by decide), bit_f v i hv (by omega), Option.bind_some, h, if_pos (by decide), e1, e2]
    rfl
theorem clz_loop (v w : Nat) (hv : v < 18446744073709551616) (hw : w ≤ 64) : ∀ (d i K : Nat), i + d = w → v < 2 ^ d → avocetref02_counted.l0 (K + 3 * d + 1) 0 v w i i = some ((w : Int) - (Lib.bitLen v : Int))
  | 0, i, K, e, h => by
    obtain rfl : i = w := by omega
    have : v = 0 := by simpa using h
    subst this
    simp only [avocetref02_counted.l0]
    rw [if_neg (by omega), show Lib.bitLen 0 = 0 from rfl]
    simp
  | d + 1, i, K, e, h => by
    rw [show K + 3 * (d + 1) + 1 = (K + 3 * d + 1) + 3 by omega, clz_step (K + 3 * d + 1) v w i hv hw (by omega), show w - 1 - i = d by omega]
    have p := Nat.two_pow_pos d
    have t := Nat.testBit_eq_decide_div_mod_eq (x := v) (i := d)
    rw [Nat.pow_succ] at h
    by_cases c : v < 2 ^ d
    · rw [t, Nat.div_eq_of_lt c, if_neg (by decide)]
      exact clz_loop v w hv hw d (i + 1) K (by omega) c
    · have q : v / 2 ^ d = 1 := by
        rw [Nat.div_eq_iff p]
        omega
      rw [t, q, if_pos (by decide)]
      have l1 := bitLen_lo 64 d v (by omega) (by omega)
      have l2 := bitLenAux_le' 64 (d + 1) v (by rw [Nat.pow_succ]; exact h)
      have e3 : Lib.bitLen v = d + 1 := by
        show Lib.bitLenAux 64 v = d + 1
        omega
      rw [e3]
      congr 1
      omega
theorem ctzFrom_at : ∀ (f i x : Nat), i < f → x % 2 ^ i = 0 → x / 2 ^ i % 2 = 1 → Lib.ctzFrom f x = i
  | 0, i, x, h, _, _ => by omega
  | f + 1, 0, x, h, h1, h2 => by
    unfold Lib.ctzFrom
    rw [if_pos (by simpa using h2)]
  | f + 1, i + 1, x, h, h1, h2 => by
    have e0 : x % 2 = 0 := by
      have := Nat.mod_mod_of_dvd x (show 2 ∣ 2 ^ (i + 1) by rw [Nat.pow_succ]; exact Nat.dvd_mul_left 2 _)
      rw [h1] at this
      omega
    have e1 : x / 2 % 2 ^ i = 0 := by
      have : x % 2 ^ (i + 1) / 2 = x / 2 % 2 ^ i := by rw [Nat.pow_succ, Nat.mul_comm, Nat.mod_mul_right_div_self]
      rw [← this, h1]
    have e2 : x / 2 / 2 ^ i % 2 = 1 := by rw [Nat.div_div_eq_div_mul, Nat.mul_comm, ← Nat.pow_succ]; exact h2
    unfold Lib.ctzFrom
    rw [if_neg (by omega), ctzFrom_at f i (x / 2) (by omega) e1 e2]
    omega
theorem ctz_loop (v w : Nat) (hv : v < 2 ^ w) (hv2 : v < 18446744073709551616) (hw : w ≤ 64) : ∀ (d i K : Nat), i + d = w → v % 2 ^ i = 0 → avocetref02_counted.l0 (K + 3 * d + 1) 1 v w i i = some ((Lib.ctz w v : Nat) : Int)
  | 0, i, K, e, h => by
    obtain rfl : i = w := by omega
    rw [Nat.mod_eq_of_lt hv] at h
    subst h
    simp only [avocetref02_counted.l0]
    rw [if_neg (by omega)]
    rfl
  | d + 1, i, K, e, h => by
    rw [show K + 3 * (d + 1) + 1 = (K + 3 * d + 1) + 3 by omega, ctz_step (K + 3 * d + 1) v w i hv2 hw (by omega)]
    have t := Nat.testBit_eq_decide_div_mod_eq (x := v) (i := i)
    by_cases c : v / 2 ^ i % 2 = 1
    · rw [t, decide_eq_true c, if_pos rfl]
      have n0 : v ≠ 0 := by rintro rfl; simp at c
      unfold Lib.ctz
      rw [if_neg n0, ctzFrom_at w i v (by omega) h c]
    · rw [t, decide_eq_false c, if_neg (by decide)]
      refine ctz_loop v w hv hv2 hw d (i + 1) K (by omega) ?_
      rw [Nat.mod_pow_succ, h, show v / 2 ^ i % 2 = 0 by omega]
      rfl
theorem pop_loop (v w : Nat) (hv : v < 18446744073709551616) (hw : w ≤ 64) : ∀ (d i n K : Nat), i + d = w → n ≤ i → avocetref02_counted.l0 (K + 3 * d + 1) 2 v w n i = some ((n + Lib.popAux d (v / 2 ^ i) : Nat) : Int)
  | 0, i, n, K, e, h => by
    simp only [avocetref02_counted.l0]
    rw [if_neg (by omega)]
    rfl
  | d + 1, i, n, K, e, h => by
    have hb : (v.testBit i).toNat ≤ 1 := by cases v.testBit i <;> decide
    rw [show K + 3 * (d + 1) + 1 = (K + 3 * d + 1) + 3 by omega, pop_step (K + 3 * d + 1) v w n i hv hw (by omega) (by omega), pop_loop v w hv hw d (i + 1) _ K (by omega) (by omega), tb_nat]
    have : Lib.popAux (d + 1) (v / 2 ^ i) = v / 2 ^ i % 2 + Lib.popAux d (v / 2 ^ i / 2) := rfl
    have e2 : v / 2 ^ (i + 1) = v / 2 ^ i / 2 := by rw [Nat.pow_succ, Nat.div_div_eq_div_mul]
    rw [this, e2]
    exact congrArg (fun z : Nat => some (z : Int)) (by omega)
theorem counted_f (what : Int) (v w K : Nat) (hv : v < 2 ^ w) (hv2 : v < 18446744073709551616) (hw : w ≤ 64) (hk : 0 ≤ what ∧ what ≤ 2) : avocetref02_counted.f (K + 3 * w + 1) what v w = some (if what = 0 then (w : Int) - (Lib.bitLen v : Int) else if what = 1 then ((Lib.ctz w v : Nat) : Int) else ((Lib.onesCount v : Nat) : Int)) := by
  unfold avocetref02_counted.f
  obtain rfl | rfl | rfl : what = 0 ∨ what = 1 ∨ what = 2 := by omega
  · exact clz_loop v w hv2 hw w 0 K (by omega) hv
  · exact ctz_loop v w hv hv2 hw w 0 K (by omega) (by rw [Nat.pow_zero, Nat.mod_one])
  · have h := pop_loop v w hv2 hw w 0 0 K (by omega) (by omega)
    rw [Nat.pow_zero, Nat.div_one, Nat.zero_add] at h
    have e : Lib.onesCount v = Lib.popAux w v := by
      have := popAux_more w (64 - w) v hv
      rwa [show w + (64 - w) = 64 by omega] at this
    rw [if_neg (by decide), if_neg (by decide), e]
    exact h
end Go.Proofs.YtjonlcnmpejamaaDoor.Pure
