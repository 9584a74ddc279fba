/- Bits of whole numbers. -/
import Derived.Test.YtjdnkhgpnddncaaWWords
namespace Go.Proofs.Ytjdnkhgpnddncaa.G
open Go.RowKit Go.Proofs.YtjdnkhgpnddncaaW.PrintWords
set_option linter.unusedVariables false
theorem wrap_u64_ (n : Int) : IntKind.u64.wrap n = n % 18446744073709551616 := by simp [IntKind.wrap, IntKind.signed, IntKind.bits]
theorem and_u64_nat (a b : Nat) (ha : a < 18446744073709551616) (hb : b < 18446744073709551616) : bits .and .u64 (a : Int) (b : Int) = ((a &&& b : Nat) : Int) := by
  have h1 : (BitVec.ofInt 64 (a : Int)).toNat = a := by simp; omega
  have h2 : (BitVec.ofInt 64 (b : Int)).toNat = b := by simp; omega
  have h3 : a &&& b < 2 ^ 64 := Nat.and_lt_two_pow (n := 64) _ hb
  show IntKind.u64.wrap ((BitVec.ofInt 64 (a : Int) &&& BitVec.ofInt 64 (b : Int)).toNat : Int) = _
  rw [BitVec.toNat_and, h1, h2, wrap_u64_]
  omega
theorem and_low (x : Int) (m : Nat) (hx : 0 ≤ x ∧ x < 18446744073709551616) (hm : m < 18446744073709551616) : ∃ a : Nat, bits .and .u64 x (m : Int) = (a : Int) ∧ a ≤ m := by
  obtain ⟨n, rfl⟩ := Int.eq_ofNat_of_zero_le hx.1
  exact ⟨n &&& m, and_u64_nat n m (by omega) hm, Nat.and_le_right⟩
theorem and_lowi (x : Int) (m : Nat) (hm : m < 9223372036854775808) : ∃ a : Nat, bits .and .i64 x (m : Int) = (a : Int) ∧ a ≤ m := by
  have h2 : (BitVec.ofInt 64 (m : Int)).toNat = m := by simp; omega
  have h3 : (BitVec.ofInt 64 x &&& BitVec.ofInt 64 (m : Int)).toNat ≤ m := by rw [BitVec.toNat_and, h2]; exact Nat.and_le_right
  refine ⟨_, ?_, h3⟩
  show IntKind.i64.wrap ((BitVec.ofInt 64 x &&& BitVec.ofInt 64 (m : Int)).toNat : Int) = _
  rw [IntKind.wrap_i64]
  omega
theorem and_mask (v n m : Nat) (hv : v < 18446744073709551616) (hm : m = 2 ^ n - 1) (hm2 : m < 18446744073709551616) : bits .and .u64 (v : Int) (m : Int) = ((v % 2 ^ n : Nat) : Int) := by
  rw [and_u64_nat v m hv hm2, hm, Nat.and_two_pow_sub_one_eq_mod]
end Go.Proofs.Ytjdnkhgpnddncaa.G
