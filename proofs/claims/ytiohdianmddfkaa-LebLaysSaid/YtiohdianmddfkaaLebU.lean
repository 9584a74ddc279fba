/- What the program's laying of numbers, and its lengths, come to: in the plain words of LebM. -/
import Derived.Test.YtiohdianmddfkaaLebM
import Derived.Test.YtiohdianmddfkaaG1
set_option linter.unusedVariables false
set_option linter.unusedSimpArgs false
namespace Go.Proofs.Ytiohdianmddfkaa.LebU
open Go.RowKit Go.Proofs.Ytiohdianmddfkaa.G Go.Proofs.YtiohdianmddfkaaW.PrintWords Go.Proofs.YtiohdianmddfkaaW.PrintLast Go.Proofs.YtiohdianmddfkaaW.PrintMore Go.Proofs.Ytiohdianmddfkaa.LebM

theorem wrap64_id (x : Int) (h0 : -9223372036854775808 ≤ x) (h1 : x < 9223372036854775808) : wrap64 x = x := by unfold wrap64; omega
theorem U_l0 : ∀ (j k : Nat) (v : Int) (out : List Int), 0 ≤ v → v < 128 * 128 ^ j → j < k → out.length + j + 1 < 140737488355328 → leb_U.l0 k v out = some (out ++ uB j v)
  | 0, k, v, out, h0, h1, hk, hl => by
    obtain ⟨k, rfl⟩ : ∃ m, k = m + 1 := ⟨k - 1, by omega⟩
    simp at h1
    simp only [leb_U.l0, uB]
    rw [if_neg (by omega), if_pos (by omega)]
    congr 3; omega
  | j + 1, k, v, out, h0, h1, hk, hl => by
    obtain ⟨k, rfl⟩ : ∃ m, k = m + 1 := ⟨k - 1, by omega⟩
    rw [Int.pow_succ] at h1
    simp only [leb_U.l0, uB]
    by_cases hv : v ≥ 128
    · rw [if_pos hv, if_pos (by omega), if_pos hv, U_l0 j k (v / 128) _ (by omega) (by omega) (by omega) (by simp; omega)]
      rw [or128 _ (by omega) (by omega), List.append_assoc]
      congr 2
      simp
    · rw [if_neg hv, if_pos (by omega), if_neg hv]
      congr 3; omega
theorem U_f (k : Nat) (l : List Int) (v : Int) (h0 : 0 ≤ v) (h1 : v < 18446744073709551616) (hk : 10 ≤ k) (hl : l.length + 10 < 140737488355328) : leb_U.f k l v = some (l ++ uB 9 v) := by
  unfold leb_U.f bytes_Clone.f
  rw [if_pos (by omega), Option.bind_some]
  exact U_l0 9 k v l h0 (by omega) (by omega) (by omega)
theorem S_l0 : ∀ (j k : Nat) (v : Int) (out : List Int), -64 * 128 ^ j ≤ v → v < 64 * 128 ^ j → j < k → out.length + j + 1 < 140737488355328 → leb_S.l0 k v out = some (out ++ sB j v)
  | 0, k, v, out, h0, h1, hk, hl => by
    obtain ⟨k, rfl⟩ : ∃ m, k = m + 1 := ⟨k - 1, by omega⟩
    simp at h0 h1
    simp only [leb_S.l0, sB]
    rw [if_neg (by omega), if_neg (by omega), if_pos (by omega), and127 _ (by omega) (by omega)]
    congr 3; omega
  | j + 1, k, v, out, h0, h1, hk, hl => by
    obtain ⟨k, rfl⟩ : ∃ m, k = m + 1 := ⟨k - 1, by omega⟩
    rw [Int.pow_succ] at h0 h1
    simp only [leb_S.l0, sB]
    have R : v < -64 ∨ v ≥ 64 → leb_S.l0 k (v / 128) (out ++ [Go.bits .or .u8 (v % 256) 128]) = some (out ++ ((v % 128 + 128) :: sB j (v / 128))) := fun hv => by
      rw [S_l0 j k (v / 128) _ (by omega) (by omega) (by omega) (by simp; omega), or128 _ (by omega) (by omega), List.append_assoc]
      congr 2
      simp
    by_cases hv : v < -64
    · rw [if_pos hv, if_pos (by omega), if_pos (.inl hv), R (.inl hv)]
    · rw [if_neg hv]
      by_cases hw : v ≥ 64
      · rw [if_pos hw, if_pos (by omega), if_pos (.inr hw), R (.inr hw)]
      · rw [if_neg hw, if_pos (by omega), if_neg (by omega), and127 _ (by omega) (by omega)]
        congr 3; omega
theorem S_f (k : Nat) (l : List Int) (v : Int) (h0 : -9223372036854775808 ≤ v) (h1 : v < 9223372036854775808) (hk : 10 ≤ k) (hl : l.length + 10 < 140737488355328) : leb_S.f k l v = some (l ++ sB 9 v) := by
  unfold leb_S.f bytes_Clone.f
  rw [if_pos (by omega), Option.bind_some]
  exact S_l0 9 k v l (by omega) (by omega) (by omega) (by omega)
theorem awake_f (k : Nat) (hk : 10 ≤ k) : avocetlaw01_awake.f k = some true := by
  unfold avocetlaw01_awake.f
  rw [U_f k [] 624485 (by omega) (by omega) hk (by simp), S_f k [] (-123456) (by omega) (by omega) hk (by simp)]
  rw [show uB 9 624485 = [229, 142, 38] by decide +kernel, show sB 9 (-123456) = [192, 187, 120] by decide +kernel]
  rfl
theorem LenU_f (v : Int) (h0 : 0 ≤ v) (h1 : v < 18446744073709551616) : leb_LenU.f v = some ((uB 9 v).length : Int) := by
  unfold leb_LenU.f bits_Len64.f
  rw [if_pos (by omega), Option.bind_some, uB_length 9 v h0 (by omega) h1]
  have hl : Lib.bitLen v.toNat ≤ 64 := bitLen_le _ 64 (by omega)
  rw [wrap64_id (_ + 7) (by omega) (by omega), wrap64_id (_ + 7 - 1) (by omega) (by omega), Int.tdiv_eq_ediv_of_nonneg (by omega), wrap64_id (_ / 7) (by omega) (by omega)]
  congr 1
  unfold mx
  split <;> omega
theorem wrap_u64 (x : Int) : IntKind.u64.wrap x = x % 18446744073709551616 := IntKind.wrap_u64 x
theorem xor_neg (v : Int) (h0 : -9223372036854775808 ≤ v) (h1 : v < 0) : IntKind.u64.wrap (Go.bits .xor .i64 (-1) v) = -1 - v := by
  have e : (BitVec.ofInt 64 (-1)) = BitVec.allOnes 64 := by decide
  have : Go.bits .xor .i64 (-1) v = -1 - v := by
    show IntKind.i64.wrap ((BitVec.ofInt 64 (-1) ^^^ BitVec.ofInt 64 v).toNat : Int) = _
    rw [e, BitVec.allOnes_xor, BitVec.toNat_not, BitVec.toNat_ofInt, IntKind.wrap_i64]
    omega
  rw [this, wrap_u64]
  omega
theorem LenS_f (v : Int) (h0 : -9223372036854775808 ≤ v) (h1 : v < 9223372036854775808) : leb_LenS.f v = some ((sB 9 v).length : Int) := by
  have hm : mag v < 2 ^ 63 := by unfold mag; split <;> omega
  have hl : Lib.bitLen (mag v) ≤ 63 := bitLen_le _ 63 hm
  rw [sB_length 9 v (by omega) (by omega) h0 h1]
  unfold leb_LenS.f bits_Len64.f
  by_cases hv : v < 0
  · rw [if_pos hv, xor_neg v h0 hv, if_pos (by omega), Option.bind_some]
    have e : (-1 - v).toNat = mag v := by unfold mag; rw [if_pos hv]
    rw [e, Int.tdiv_eq_ediv_of_nonneg (by omega), wrap64_id (_ / 7) (by omega) (by omega), wrap64_id _ (by omega) (by omega)]
    congr 1
  · rw [if_neg hv, wrap_u64, Int.emod_eq_of_lt (by omega) (by omega), if_pos (by omega), Option.bind_some]
    have e : v.toNat = mag v := by unfold mag; rw [if_neg hv]
    rw [e, Int.tdiv_eq_ediv_of_nonneg (by omega), wrap64_id (_ / 7) (by omega) (by omega), wrap64_id _ (by omega) (by omega)]
    congr 1
/-- The lowest digits of two. -/
theorem and_i64 (j : Nat) (hj : j ≤ 62) (x m : Int) (hm : m = 2 ^ j - 1) : Go.bits .and .i64 x m = x % 2 ^ j := by
  have hp : (1 : Nat) ≤ 2 ^ j := Nat.one_le_two_pow
  have hq : (2 : Nat) ^ j ≤ 2 ^ 62 := Nat.pow_le_pow_right (by omega) hj
  have hm' : m = ((2 ^ j - 1 : Nat) : Int) := by rw [hm, Int.natCast_sub hp]; simp
  show IntKind.i64.wrap ((BitVec.ofInt 64 x &&& BitVec.ofInt 64 m).toNat : Int) = _
  rw [BitVec.toNat_and, BitVec.toNat_ofInt, BitVec.toNat_ofInt, hm', IntKind.wrap_i64]
  have e : ((((2 ^ j - 1 : Nat) : Int) % (2 ^ 64 : Nat)).toNat) = 2 ^ j - 1 := by
    rw [Int.emod_eq_of_lt (by omega) (by omega), Int.toNat_natCast]
  rw [e, Nat.and_two_pow_sub_one_eq_mod]
  have hd : ((2 ^ j : Nat) : Int) ∣ ((2 ^ 64 : Nat) : Int) := Int.natCast_dvd_natCast.2 (Nat.pow_dvd_pow 2 (by omega))
  have e2 : (((x % ((2 ^ 64 : Nat) : Int)).toNat % 2 ^ j : Nat) : Int) = x % 2 ^ j := by
    rw [Int.natCast_emod, Int.toNat_of_nonneg (Int.emod_nonneg _ (by omega))]
    rw [Int.emod_emod_of_dvd _ hd]
    simp
  rw [e2]
  have h0 := Int.emod_nonneg x (show (2 : Int) ^ j ≠ 0 by have : (0 : Int) < 2 ^ j := by exact_mod_cast hp
                                                          omega)
  have h1 : x % 2 ^ j < 2 ^ j := Int.emod_lt_of_pos _ (by exact_mod_cast hp)
  have h2 : (2 : Int) ^ j ≤ 2 ^ 62 := by exact_mod_cast hq
  omega
theorem and_15 (x : Int) : Go.bits .and .i64 x 15 = x % 16 := and_i64 4 (by omega) x 15 (by decide)
theorem and_63 (x : Int) : Go.bits .and .i64 x 63 = x % 64 := and_i64 6 (by omega) x 63 (by decide)
theorem and_127 (x : Int) : Go.bits .and .i64 x 127 = x % 128 := and_i64 7 (by omega) x 127 (by decide)
end Go.Proofs.Ytiohdianmddfkaa.LebU
