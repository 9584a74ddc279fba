/- Package ints: the digits of operators in numbers without signs. -/
import Derived.Test.YtjonlcnmpejamaaDoorIntsP
namespace Go.Proofs.YtjonlcnmpejamaaDoor.Pure
open Go.RowKit Go.Proofs.YtjonlcnmpejamaaDoor.G Go.Proofs.YtjonlcnmpejamaaDoorW.PrintWords Go.Proofs.YtjonlcnmpejamaaDoorW.PrintLast Go.Proofs.YtjonlcnmpejamaaDoorW.PrintMore
set_option linter.unusedVariables false
theorem or_u64_nat (a b : Nat) (ha : a < 18446744073709551616) (hb : b < 18446744073709551616) : bits .or .u64 (a : Int) (b : Int) = ((a ||| b : Nat) : Int) := by
  have hx : a ||| b < 2 ^ 64 := Nat.or_lt_two_pow (by omega) (by omega)
  have h1 : (BitVec.ofInt 64 (a : Int)).toNat = a := by
    rw [BitVec.ofInt_natCast, BitVec.toNat_ofNat]; exact Nat.mod_eq_of_lt (by omega)
  have h2 : (BitVec.ofInt 64 (b : Int)).toNat = b := by
    rw [BitVec.ofInt_natCast, BitVec.toNat_ofNat]; exact Nat.mod_eq_of_lt (by omega)
  show IntKind.u64.wrap ((BitVec.ofInt 64 (a : Int) ||| BitVec.ofInt 64 (b : Int)).toNat : Int) = _
  rw [BitVec.toNat_or, h1, h2, wrap_u64_]
  omega
theorem xor_u64_nat (a b : Nat) (ha : a < 18446744073709551616) (hb : b < 18446744073709551616) : bits .xor .u64 (a : Int) (b : Int) = ((a ^^^ b : Nat) : Int) := by
  have hx : a ^^^ b < 2 ^ 64 := Nat.xor_lt_two_pow (by omega) (by omega)
  have h1 : (BitVec.ofInt 64 (a : Int)).toNat = a := by
    rw [BitVec.ofInt_natCast, BitVec.toNat_ofNat]; exact Nat.mod_eq_of_lt (by omega)
  have h2 : (BitVec.ofInt 64 (b : Int)).toNat = b := by
    rw [BitVec.ofInt_natCast, BitVec.toNat_ofNat]; exact Nat.mod_eq_of_lt (by omega)
  show IntKind.u64.wrap ((BitVec.ofInt 64 (a : Int) ^^^ BitVec.ofInt 64 (b : Int)).toNat : Int) = _
  rw [BitVec.toNat_xor, h1, h2, wrap_u64_]
  omega
theorem or_u32_nat (a b : Nat) (ha : a < 4294967296) (hb : b < 4294967296) : bits .or .u32 (a : Int) (b : Int) = ((a ||| b : Nat) : Int) := by
  have hx : a ||| b < 2 ^ 32 := Nat.or_lt_two_pow (by omega) (by omega)
  have h1 : (BitVec.ofInt 32 (a : Int)).toNat = a := by
    rw [BitVec.ofInt_natCast, BitVec.toNat_ofNat]; exact Nat.mod_eq_of_lt (by omega)
  have h2 : (BitVec.ofInt 32 (b : Int)).toNat = b := by
    rw [BitVec.ofInt_natCast, BitVec.toNat_ofNat]; exact Nat.mod_eq_of_lt (by omega)
  show IntKind.u32.wrap ((BitVec.ofInt 32 (a : Int) ||| BitVec.ofInt 32 (b : Int)).toNat : Int) = _
  rw [BitVec.toNat_or, h1, h2, wrap_u32_]
  omega
/-- The low 32 digits. -/
theorem mask_ (v : Int) (h0 : 0 ≤ v) (h1 : v < 18446744073709551616) : bits .and .u64 v 4294967295 = v % 4294967296 := by
  have h := and_u64_nat v.toNat 4294967295 (by omega) (by omega)
  have e : v.toNat &&& 4294967295 = v.toNat % 4294967296 := Nat.and_two_pow_sub_one_eq_mod _ 32
  rw [e, Int.toNat_of_nonneg h0] at h
  rw [show ((4294967295 : Nat) : Int) = 4294967295 from rfl] at h
  rw [h]
  omega
theorem bits64_range (o : BinOp) (a b : Int) : 0 ≤ bits o .u64 a b ∧ bits o .u64 a b < 18446744073709551616 := by
  cases o <;> exact ⟨uw_lo _, uw_hi _⟩
theorem bits32_range (o : BinOp) (a b : Int) : 0 ≤ bits o .u32 a b ∧ bits o .u32 a b < 4294967296 := by
  have e : ∀ n, 0 ≤ IntKind.u32.wrap n ∧ IntKind.u32.wrap n < 4294967296 := fun n => by rw [wrap_u32_]; omega
  cases o <;> exact e _
theorem pow_pos_ (n : Nat) : (1 : Int) ≤ 2 ^ n := by
  have : (0 : Int) < 2 ^ n := Int.pow_pos (by decide)
  omega
theorem div_range (a : Int) (p : Int) (hp : 1 ≤ p) (h0 : 0 ≤ a) (M : Int) (h1 : a < M) : 0 ≤ a / p ∧ a / p < M := by
  have h2 : 0 ≤ a / p := Int.ediv_nonneg h0 (by omega)
  have h3 : a / p ≤ a := Int.ediv_le_self _ h0
  omega
def In64 (v : Int) : Prop := 0 ≤ v ∧ v < 18446744073709551616
theorem In64.ite {c : Prop} [Decidable c] {x y : Int} (hx : c → In64 x) (hy : ¬ c → In64 y) : In64 (if c then x else y) := by
  by_cases h : c
  · rw [if_pos h]; exact hx h
  · rw [if_neg h]; exact hy h
theorem tmod_in (a b : Int) (h0 : 0 ≤ a) (hb : 0 < b) (h3 : b < 18446744073709551616) : In64 (Int.tmod a b) := by
  rw [Int.tmod_eq_emod_of_nonneg h0]
  have := Int.emod_nonneg a (show b ≠ 0 by omega)
  have := Int.emod_lt_of_pos a hb
  exact ⟨by omega, by omega⟩
theorem wop_range (k a b : Int) (h0 : 0 ≤ a) (h1 : a < 18446744073709551616) (h2 : 0 < b ∨ ¬ (3 ≤ k ∧ k ≤ 6)) (h3 : b < 18446744073709551616) : 0 ≤ wop k a b ∧ wop k a b < 18446744073709551616 := by
  have W : ∀ n, In64 (IntKind.u64.wrap n) := fun n => ⟨uw_lo n, uw_hi n⟩
  have B : ∀ o x y, In64 (bits o .u64 x y) := fun o x y => bits64_range o x y
  have hb : k = 6 → 0 < b := fun h => h2.resolve_right (by omega)
  show In64 (wop k a b)
  clear h2
  unfold wop
  refine .ite (fun _ => W _) fun _ => ?_
  refine .ite (fun _ => W _) fun _ => ?_
  refine .ite (fun _ => W _) fun _ => ?_
  refine .ite (fun _ => W _) fun _ => ?_
  refine .ite (fun _ => W _) fun _ => ?_
  refine .ite (fun _ => W _) fun _ => ?_
  refine .ite (fun h => tmod_in a b h0 (hb h) h3) fun _ => ?_
  refine .ite (fun _ => B _ _ _) fun _ => ?_
  refine .ite (fun _ => B _ _ _) fun _ => ?_
  refine .ite (fun _ => B _ _ _) fun _ => ?_
  refine .ite (fun _ => W _) fun _ => ?_
  refine .ite (fun _ => W _) fun _ => ?_
  refine .ite (fun _ => div_range a _ (pow_pos_ _) h0 _ h1) fun _ => ?_
  exact .ite (fun _ => B _ _ _) fun _ => B _ _ _
end Go.Proofs.YtjonlcnmpejamaaDoor.Pure
