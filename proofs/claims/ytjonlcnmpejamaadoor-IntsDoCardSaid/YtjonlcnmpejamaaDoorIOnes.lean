/- Contracts of bits.OnesCount32, OnesCount64. -/
import Derived.Test.YtjonlcnmpejamaaDoorIGlob
import Derived.Test.YtjonlcnmpejamaaDoorIPop
import Derived.Lib.Tables
import Derived.Lib.BitFns
import Derived.Deep.QuietTactic
namespace Go.Proofs.YtjonlcnmpejamaaDoor.G
open Go.RowKit Go.Proofs.YtjonlcnmpejamaaDoorW.PrintWords Go.Proofs.YtjonlcnmpejamaaDoorW.PrintLast Go.Proofs.YtjonlcnmpejamaaDoorW.PrintMore
set_option linter.unusedVariables false
set_option linter.unusedSimpArgs false
theorem and255_ (b : Int) (h0 : 0 ≤ b) (h1 : b < 4294967296) : bits .and .u32 b 255 = b % 256 := by
  have h := and_u32_nat b.toNat 255 (by omega) (by omega)
  have e : b.toNat &&& 255 = b.toNat % 256 := Nat.and_two_pow_sub_one_eq_mod _ 8
  rw [e, Int.toNat_of_nonneg h0] at h
  rw [show ((255 : Nat) : Int) = 255 from rfl] at h
  rw [h]
  omega
set_option maxRecDepth 100000 in
theorem popfold_ : (⟨((([0, 1, 1, 2, 1, 2, 2, 3, 1, 2, 2, 3, 2, 3, 3, 4, 1, 2, 2, 3, 2, 3, 3, 4, 2, 3, 3, 4, 3, 4, 4, 5, 1, 2, 2, 3, 2, 3, 3, 4, 2, 3, 3, 4, 3, 4, 4, 5, 2, 3, 3, 4, 3, 4, 4, 5, 3, 4, 4, 5, 4, 5, 5, 6] : List UInt8).append ([1, 2, 2, 3, 2, 3, 3, 4, 2, 3, 3, 4, 3, 4, 4, 5, 2, 3, 3, 4, 3, 4, 4, 5, 3, 4, 4, 5, 4, 5, 5, 6, 2, 3, 3, 4, 3, 4, 4, 5, 3, 4, 4, 5, 4, 5, 5, 6, 3, 4, 4, 5, 4, 5, 5, 6, 4, 5, 5, 6, 5, 6, 6, 7] : List UInt8)).append (([1, 2, 2, 3, 2, 3, 3, 4, 2, 3, 3, 4, 3, 4, 4, 5, 2, 3, 3, 4, 3, 4, 4, 5, 3, 4, 4, 5, 4, 5, 5, 6, 2, 3, 3, 4, 3, 4, 4, 5, 3, 4, 4, 5, 4, 5, 5, 6, 3, 4, 4, 5, 4, 5, 5, 6, 4, 5, 5, 6, 5, 6, 6, 7] : List UInt8).append ([2, 3, 3, 4, 3, 4, 4, 5, 3, 4, 4, 5, 4, 5, 5, 6, 3, 4, 4, 5, 4, 5, 5, 6, 4, 5, 5, 6, 5, 6, 6, 7, 3, 4, 4, 5, 4, 5, 5, 6, 4, 5, 5, 6, 5, 6, 6, 7, 4, 5, 5, 6, 5, 6, 6, 7, 5, 6, 6, 7, 6, 7, 7, 8] : List UInt8))).toArray⟩ : ByteArray) = Lib.pop8tab := by rfl
theorem pop8_nat (n : Nat) (h : n < 256) : Lib.pop8 (n : Int) = (Lib.onesCount n : Int) := Lib.pop8_eq ⟨n, h⟩
theorem ones32_sum (a0 : Int) (h0 : 0 ≤ a0) (h1 : a0 < 4294967296) : (Lib.pop8 (a0 / 16777216) + Lib.pop8 (a0 / 65536 % 256) + Lib.pop8 (a0 / 256 % 256) + Lib.pop8 (a0 % 256)) % 256 = (Lib.onesCount a0.toNat : Int) := by
  obtain ⟨n, rfl⟩ := Int.eq_ofNat_of_zero_le h0
  have e1 : (n : Int) / 16777216 = ((n / 16777216 : Nat) : Int) := by omega
  have e2 : (n : Int) / 65536 % 256 = ((n / 65536 % 256 : Nat) : Int) := by omega
  have e3 : (n : Int) / 256 % 256 = ((n / 256 % 256 : Nat) : Int) := by omega
  have e4 : (n : Int) % 256 = ((n % 256 : Nat) : Int) := by omega
  rw [e1, e2, e3, e4, pop8_nat _ (by omega), pop8_nat _ (by omega), pop8_nat _ (by omega), pop8_nat _ (by omega), Int.toNat_natCast, ← ones32_eq n (by omega)]
  have l1 := onesCount_le8 (n / 16777216) (by omega)
  have l2 := onesCount_le8 (n / 65536 % 256) (by omega)
  have l3 := onesCount_le8 (n / 256 % 256) (by omega)
  have l4 := onesCount_le8 (n % 256) (by omega)
  generalize Lib.onesCount (n / 16777216) = c1 at *
  generalize Lib.onesCount (n / 65536 % 256) = c2 at *
  generalize Lib.onesCount (n / 256 % 256) = c3 at *
  generalize Lib.onesCount (n % 256) = c4 at *
  omega
set_option maxHeartbeats 8000000 in
set_option maxRecDepth 100000 in
theorem ones32_calls (a0 : Int) (w : World) (h0 : 0 ≤ a0) (h1 : a0 < 4294967296) : Calls Tryd.prog 30 #[.int .u32 a0] w fun e w' => e = .returned (.int .i64 (Lib.onesCount a0.toNat)) ∧ Drawn0 w w' := by
  have k1 := and255_ a0 h0 h1
  have k2 := and255_ (a0 / 256) (by omega) (by omega)
  have k3 := and255_ (a0 / 65536) (by omega) (by omega)
  have ix : ∀ (x : Int) (w : World), 0 ≤ x → x ≤ 255 → (Instr.index 9 (.string Lib.pop8tab) (.int .u32 x)).run Tryd.prog w = .ok (.int .u8 (Lib.pop8 x)) w := fun x w p q => Lib.run_index_pop8tab w 9 .u32 x (by kernel_rfl) p q
  have i1 := fun w => ix (a0 / 16777216) w (by omega) (by omega)
  have i2 := fun w => ix (a0 / 65536 % 256) w (by omega) (by omega)
  have i3 := fun w => ix (a0 / 256 % 256) w (by omega) (by omega)
  have i4 := fun w => ix (a0 % 256) w (by omega) (by omega)
  go_enter Tryd.func30, Tryd.ntmps30
  go_wp2
  rw [popfold_]
  go_quiet (fail)

  go_wp2
  go_ret
  refine ⟨congrArg Ending.returned (congrArg (Value.int IntKind.i64) ?_), ⟨_, rfl⟩⟩
  exact ones32_sum a0 h0 h1

theorem wrapn (n : Nat) (h : n < 18446744073709551616) : IntKind.u64.wrap (n : Int) = n := by rw [wrap_u64_]; omega
theorem wrapn2 (a b : Nat) (h : a + b < 18446744073709551616) : IntKind.u64.wrap ((a : Int) + (b : Int)) = ((a + b : Nat) : Int) := by rw [wrap_u64_]; omega
theorem and127 (n : Nat) (h : n < 18446744073709551616) : bits .and .i64 (wrap64 (n : Int)) 127 = ((n % 128 : Nat) : Int) := by
  have h1 : (BitVec.ofInt 64 (wrap64 (n : Int))).toNat = n := by
    rw [BitVec.toNat_ofInt]
    unfold wrap64
    simp only [Nat.reducePow]
    omega
  have h2 : (BitVec.ofInt 64 (127 : Int)).toNat = 127 := by decide
  show IntKind.i64.wrap ((BitVec.ofInt 64 (wrap64 (n : Int)) &&& BitVec.ofInt 64 (127 : Int)).toNat : Int) = _
  rw [BitVec.toNat_and, h1, h2, show (127 : Nat) = 2 ^ 7 - 1 from rfl, Nat.and_two_pow_sub_one_eq_mod]
  have : n % 2 ^ 7 < 128 := Nat.mod_lt _ (by decide)
  have e : n % 2 ^ 7 = n % 128 := rfl
  rw [e] at *
  generalize n % 128 = q at *
  simp [IntKind.wrap, IntKind.signed, IntKind.bits]
  omega
theorem s1_E (n : Nat) (h : n < 18446744073709551616) : IntKind.u64.wrap (bits .and .u64 ((n : Int) / 2) 6148914691236517205 + bits .and .u64 (n : Int) 6148914691236517205) = ((s1 8 n : Nat) : Int) := by
  have a1 := and_u64_nat (n / 2) 6148914691236517205 (by omega) (by decide)
  have a2 := and_u64_nat n 6148914691236517205 h (by decide)
  rw [show ((n / 2 : Nat) : Int) = (n : Int) / 2 from by omega, show ((6148914691236517205 : Nat) : Int) = 6148914691236517205 from rfl] at a1
  rw [show ((6148914691236517205 : Nat) : Int) = 6148914691236517205 from rfl] at a2
  have b1 : (n / 2 &&& 6148914691236517205) ≤ 6148914691236517205 := Nat.and_le_right
  have b2 : (n &&& 6148914691236517205) ≤ 6148914691236517205 := Nat.and_le_right
  rw [a1, a2, wrapn2 _ _ (by omega)]
  rfl
theorem s1_hi (n : Nat) : s1 8 n < 18446744073709551616 := by
  have b1 : (n / 2 &&& m5 8) ≤ m5 8 := Nat.and_le_right
  have b2 : (n &&& m5 8) ≤ m5 8 := Nat.and_le_right
  have e : m5 8 = 6148914691236517205 := rfl
  unfold s1; omega
theorem s2_E (n : Nat) (h : n < 18446744073709551616) : IntKind.u64.wrap (bits .and .u64 ((n : Int) / 4) 3689348814741910323 + bits .and .u64 (n : Int) 3689348814741910323) = ((s2 8 n : Nat) : Int) := by
  have a1 := and_u64_nat (n / 4) 3689348814741910323 (by omega) (by decide)
  have a2 := and_u64_nat n 3689348814741910323 h (by decide)
  rw [show ((n / 4 : Nat) : Int) = (n : Int) / 4 from by omega, show ((3689348814741910323 : Nat) : Int) = 3689348814741910323 from rfl] at a1
  rw [show ((3689348814741910323 : Nat) : Int) = 3689348814741910323 from rfl] at a2
  have b1 : (n / 4 &&& 3689348814741910323) ≤ 3689348814741910323 := Nat.and_le_right
  have b2 : (n &&& 3689348814741910323) ≤ 3689348814741910323 := Nat.and_le_right
  rw [a1, a2, wrapn2 _ _ (by omega)]
  rfl
theorem s2_hi (n : Nat) : s2 8 n ≤ 7378697629483820646 := by
  have b1 : (n / 4 &&& m3 8) ≤ m3 8 := Nat.and_le_right
  have b2 : (n &&& m3 8) ≤ m3 8 := Nat.and_le_right
  have e : m3 8 = 3689348814741910323 := rfl
  unfold s2; omega
theorem s3_E (n : Nat) (h : n ≤ 7378697629483820646) : bits .and .u64 (IntKind.u64.wrap ((n : Int) / 16 + (n : Int))) 1085102592571150095 = ((s3 8 n : Nat) : Int) := by
  rw [show (n : Int) / 16 = ((n / 16 : Nat) : Int) from by omega, wrapn2 _ _ (by omega)]
  exact and_u64_nat (n / 16 + n) 1085102592571150095 (by omega) (by decide)
theorem st_E (n : Nat) (d : Nat) (e : Int) (he : (d : Int) = e) : IntKind.u64.wrap ((n : Int) + (n : Int) / e) = (((n + n / d) % 18446744073709551616 : Nat) : Int) := by
  subst he
  rw [wrap_u64_]
  rw [Int.natCast_emod, Int.natCast_add, Int.natCast_ediv]
  rfl
set_option maxHeartbeats 8000000 in
theorem ones64_calls (n : Nat) (w : World) (h1 : n < 18446744073709551616) : Calls Tryd.prog 33 #[.int .u64 n] w fun e w' => e = .returned (.int .i64 (Lib.onesCount n)) ∧ w' = w := by
  go_enter Tryd.func33, Tryd.ntmps33
  go_wp2
  go_ret
  refine ⟨congrArg Ending.returned (congrArg (Value.int IntKind.i64) ?_), rfl⟩
  rw [s1_E n h1, s2_E _ (s1_hi n), s3_E _ (s2_hi _), st_E _ 256 256 rfl, st_E _ 65536 65536 rfl, st_E _ 4294967296 4294967296 rfl]
  rw [and127 _ (Nat.mod_lt _ (by decide)), ones64_eq n _ _ _ _ h1 rfl rfl rfl rfl]
end Go.Proofs.YtjonlcnmpejamaaDoor.G
