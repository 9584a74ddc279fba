/- Masks of an int. -/
import Derived.Test.YtoeknjmdlmhajaaDoorWMore
namespace Go.Proofs.YtoeknjmdlmhajaaDoor.Pure
open Go.RowKit Go.Proofs.YtoeknjmdlmhajaaDoorW.PrintWords Go.Proofs.YtoeknjmdlmhajaaDoorW.PrintLast
theorem and_i64 (j : Nat) (hj : j ≤ 62) (x m : Int) (hm : m = 2 ^ j - 1) : Go.bits .and .i64 x m = x % 2 ^ j := by
  have hp : (1 : Nat) ≤ 2 ^ j := Nat.one_le_two_pow
  have hq : (2 : Nat) ^ j ≤ 2 ^ 62 := Nat.pow_le_pow_right (by omega) hj
  have hm' : m = ((2 ^ j - 1 : Nat) : Int) := by rw [hm, Int.natCast_sub hp]; simp
  show IntKind.i64.wrap ((BitVec.ofInt 64 x &&& BitVec.ofInt 64 m).toNat : Int) = _
  rw [BitVec.toNat_and, BitVec.toNat_ofInt, BitVec.toNat_ofInt, hm', IntKind.wrap_i64]
  have e : ((((2 ^ j - 1 : Nat) : Int) % (2 ^ 64 : Nat)).toNat) = 2 ^ j - 1 := by
    rw [Int.emod_eq_of_lt (by omega) (by omega), Int.toNat_natCast]
  rw [e, Nat.and_two_pow_sub_one_eq_mod]
  have hd : ((2 ^ j : Nat) : Int) ∣ ((2 ^ 64 : Nat) : Int) := Int.natCast_dvd_natCast.2 (Nat.pow_dvd_pow 2 (by omega))
  have e2 : (((x % ((2 ^ 64 : Nat) : Int)).toNat % 2 ^ j : Nat) : Int) = x % 2 ^ j := by
    rw [Int.natCast_emod, Int.toNat_of_nonneg (Int.emod_nonneg _ (by omega))]
    rw [Int.emod_emod_of_dvd _ hd]
    simp
  rw [e2]
  have h0 := Int.emod_nonneg x (show (2 : Int) ^ j ≠ 0 by have : (0 : Int) < 2 ^ j := by exact_mod_cast hp
                                                          omega)
  have h1 : x % 2 ^ j < 2 ^ j := Int.emod_lt_of_pos _ (by exact_mod_cast hp)
  have h2 : (2 : Int) ^ j ≤ 2 ^ 62 := by exact_mod_cast hq
  omega
theorem mask21 (x : Int) : Go.bits .and .i64 x 2097151 = x % 2097152 := and_i64 21 (by omega) x 2097151 (by decide)
theorem mask16 (x : Int) : Go.bits .and .i64 x 65535 = x % 65536 := and_i64 16 (by omega) x 65535 (by decide)
end Go.Proofs.YtoeknjmdlmhajaaDoor.Pure
