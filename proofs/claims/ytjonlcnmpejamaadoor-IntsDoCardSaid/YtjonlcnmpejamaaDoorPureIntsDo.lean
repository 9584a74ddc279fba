/- What any operator gives is what the document says. -/
import Derived.Test.YtjonlcnmpejamaaDoorIntsDig
namespace Go.Proofs.YtjonlcnmpejamaaDoor.Pure
open Go.RowKit Go.Proofs.YtjonlcnmpejamaaDoor.G Go.Proofs.YtjonlcnmpejamaaDoorW.PrintWords Go.Proofs.YtjonlcnmpejamaaDoorW.PrintLast Go.Proofs.YtjonlcnmpejamaaDoorW.PrintMore
set_option linter.unusedVariables false
theorem sar64 (x s : Nat) (hs1 : s < 64) (hx : x < 18446744073709551616) (hx3 : x < 2 ^ 64) : wrap64 (x : Int) / 2 ^ s % 18446744073709551616 = (sarN 64 x s : Nat) := by
  have h1 : (9223372036854775808 : Int) = ((2 ^ (64 - 1) : Nat) : Int) := by decide
  have h2 : (18446744073709551616 : Int) = ((2 ^ 64 : Nat) : Int) := by decide
  have h3 : wrap64 (x : Int) = if (x : Int) ≥ 9223372036854775808 then (x : Int) - 18446744073709551616 else x := by
    by_cases c : (x : Int) ≥ 9223372036854775808
    · rw [if_pos c]; unfold wrap64; omega
    · rw [if_neg c]; unfold wrap64; omega
  exact sar_int 64 x s (by decide) hs1 hx3 _ _ h1 h2 _ h3
theorem w11 (x y : Int) : wideV 11 x y = (IntKind.u64.wrap (wrap64 x / 2 ^ (y % 64).toNat), 0) := by
  unfold wideV wop
  rw [if_neg (by decide)]
  iterate 10 rw [if_neg (by decide)]
  rw [if_neg (by decide), if_pos rfl]
theorem tri0 (x y H : Int) : some ((divV 0 x y H).1, (divV 0 x y H).2, true) = some (if y = 0 then (0, 2, true) else if sg H y = -1 ∧ x = H then (0, 3, true) else (Int.tdiv (sg H x) (sg H y) % (H + H), 0, true)) := by
  unfold divV
  by_cases c : y = 0
  · rw [if_pos c, if_pos c]
  · rw [if_neg c, if_neg c, if_pos rfl]
    by_cases d : sg H y = -1 ∧ x = H
    · rw [if_pos d, if_pos d]
    · rw [if_neg d, if_neg d]
theorem tri1 (x y H : Int) : some ((divV 1 x y H).1, (divV 1 x y H).2, true) = some (if y = 0 then (0, 2, true) else (x / y, 0, true)) := by
  unfold divV
  by_cases c : y = 0
  · rw [if_pos c, if_pos c]
  · rw [if_neg c, if_neg c, if_neg (by decide), if_pos rfl]
theorem tri2 (x y H : Int) : some ((divV 2 x y H).1, (divV 2 x y H).2, true) = some (if y = 0 then (0, 2, true) else (Int.tmod (sg H x) (sg H y) % (H + H), 0, true)) := by
  unfold divV
  by_cases c : y = 0
  · rw [if_pos c, if_pos c]
  · rw [if_neg c, if_neg c, if_neg (by decide), if_neg (by decide), if_pos rfl]
theorem tri3 (x y H : Int) : some ((divV 3 x y H).1, (divV 3 x y H).2, true) = some (if y = 0 then (0, 2, true) else (x % y, 0, true)) := by
  unfold divV
  by_cases c : y = 0
  · rw [if_pos c, if_pos c]
  · rw [if_neg c, if_neg c, if_neg (by decide), if_neg (by decide), if_neg (by decide)]
theorem r32_0 (x y : Nat) (hx : x < 4294967296) (hy : y < 4294967296) (a b : Int) (a0 : 0 ≤ a) (b0 : 0 ≤ b) (ex : lowV a 32 = x) (ey : lowV b 32 = y) : avocetref02_Two.j0 300 a b (14 + 0) 32 false = some ((narV 0 x y).1, (narV 0 x y).2, true) := by
  obtain ⟨s, hs⟩ : ∃ s : Nat, y % 32 = s := ⟨_, rfl⟩
  have hs1 : s < 32 := by omega
  have hm : wrap64 (Int.tmod (y : Int) (IntKind.u64.wrap 32)) = (s : Int) := by
    rw [show IntKind.u64.wrap 32 = 32 by rw [wrap_u64_]; rfl, Int.tmod_eq_emod_of_nonneg (by omega)]
    unfold wrap64
    omega
  have ht : ((y : Int) % 32).toNat = s := by omega
  have hx2 : x < 18446744073709551616 := by omega
  have hx3 : x < 2 ^ 32 := by rw [show (2 : Nat) ^ 32 = 4294967296 by decide]; exact hx
  show avocetref02_Two.j0 (299 + 1) a b (14 + 0) 32 false = _
  simp only [avocetref02_Two.j0]
  rw [if_neg (by decide), low_f a 32 a0, Option.bind_some, low_f b 32 b0, Option.bind_some, ex, ey, if_neg (by omega)]
  rw [if_pos (by decide), low_f _ _ (uw_lo _), Option.bind_some, low_wrap _ _ (Or.inl rfl)]
  have e : narV 0 x y = mk32 (IntKind.u64.wrap ((x : Int) + y), 0) := rfl
  rw [e, mk_u]
  rfl
theorem r32_1 (x y : Nat) (hx : x < 4294967296) (hy : y < 4294967296) (a b : Int) (a0 : 0 ≤ a) (b0 : 0 ≤ b) (ex : lowV a 32 = x) (ey : lowV b 32 = y) : avocetref02_Two.j0 300 a b (14 + 1) 32 false = some ((narV 1 x y).1, (narV 1 x y).2, true) := by
  obtain ⟨s, hs⟩ : ∃ s : Nat, y % 32 = s := ⟨_, rfl⟩
  have hs1 : s < 32 := by omega
  have hm : wrap64 (Int.tmod (y : Int) (IntKind.u64.wrap 32)) = (s : Int) := by
    rw [show IntKind.u64.wrap 32 = 32 by rw [wrap_u64_]; rfl, Int.tmod_eq_emod_of_nonneg (by omega)]
    unfold wrap64
    omega
  have ht : ((y : Int) % 32).toNat = s := by omega
  have hx2 : x < 18446744073709551616 := by omega
  have hx3 : x < 2 ^ 32 := by rw [show (2 : Nat) ^ 32 = 4294967296 by decide]; exact hx
  show avocetref02_Two.j0 (299 + 1) a b (14 + 1) 32 false = _
  simp only [avocetref02_Two.j0]
  rw [if_neg (by decide), low_f a 32 a0, Option.bind_some, low_f b 32 b0, Option.bind_some, ex, ey, if_neg (by omega)]
  rw [if_neg (by decide), if_pos (by decide), low_f _ _ (uw_lo _), Option.bind_some, low_wrap _ _ (Or.inl rfl)]
  have e : narV 1 x y = mk32 (IntKind.u64.wrap ((x : Int) - y), 0) := rfl
  rw [e, mk_u]
  rfl
theorem r32_2 (x y : Nat) (hx : x < 4294967296) (hy : y < 4294967296) (a b : Int) (a0 : 0 ≤ a) (b0 : 0 ≤ b) (ex : lowV a 32 = x) (ey : lowV b 32 = y) : avocetref02_Two.j0 300 a b (14 + 2) 32 false = some ((narV 2 x y).1, (narV 2 x y).2, true) := by
  obtain ⟨s, hs⟩ : ∃ s : Nat, y % 32 = s := ⟨_, rfl⟩
  have hs1 : s < 32 := by omega
  have hm : wrap64 (Int.tmod (y : Int) (IntKind.u64.wrap 32)) = (s : Int) := by
    rw [show IntKind.u64.wrap 32 = 32 by rw [wrap_u64_]; rfl, Int.tmod_eq_emod_of_nonneg (by omega)]
    unfold wrap64
    omega
  have ht : ((y : Int) % 32).toNat = s := by omega
  have hx2 : x < 18446744073709551616 := by omega
  have hx3 : x < 2 ^ 32 := by rw [show (2 : Nat) ^ 32 = 4294967296 by decide]; exact hx
  show avocetref02_Two.j0 (299 + 1) a b (14 + 2) 32 false = _
  simp only [avocetref02_Two.j0]
  rw [if_neg (by decide), low_f a 32 a0, Option.bind_some, low_f b 32 b0, Option.bind_some, ex, ey, if_neg (by omega)]
  rw [if_neg (by decide), if_neg (by decide), if_pos (by decide), low_f _ _ (uw_lo _), Option.bind_some, low_wrap _ _ (Or.inl rfl)]
  have e : narV 2 x y = mk32 (IntKind.u64.wrap ((x : Int) * y), 0) := rfl
  rw [e, mk_u]
  rfl
theorem r32_3 (x y : Nat) (hx : x < 4294967296) (hy : y < 4294967296) (a b : Int) (a0 : 0 ≤ a) (b0 : 0 ≤ b) (ex : lowV a 32 = x) (ey : lowV b 32 = y) : avocetref02_Two.j0 300 a b (14 + 3) 32 false = some ((narV 3 x y).1, (narV 3 x y).2, true) := by
  obtain ⟨s, hs⟩ : ∃ s : Nat, y % 32 = s := ⟨_, rfl⟩
  have hs1 : s < 32 := by omega
  have hm : wrap64 (Int.tmod (y : Int) (IntKind.u64.wrap 32)) = (s : Int) := by
    rw [show IntKind.u64.wrap 32 = 32 by rw [wrap_u64_]; rfl, Int.tmod_eq_emod_of_nonneg (by omega)]
    unfold wrap64
    omega
  have ht : ((y : Int) % 32).toNat = s := by omega
  have hx2 : x < 18446744073709551616 := by omega
  have hx3 : x < 2 ^ 32 := by rw [show (2 : Nat) ^ 32 = 4294967296 by decide]; exact hx
  show avocetref02_Two.j0 (299 + 1) a b (14 + 3) 32 false = _
  simp only [avocetref02_Two.j0]
  rw [if_neg (by decide), low_f a 32 a0, Option.bind_some, low_f b 32 b0, Option.bind_some, ex, ey, if_neg (by omega)]
  rw [if_neg (by decide), if_neg (by decide), if_neg (by decide), if_pos (by decide), show wrap64 (14 + 3 - 17) = 0 by unfold wrap64; omega, divided_f 0 x y 32 (Or.inl rfl) (by decide) (by omega) (show (x : Int) < 2147483648 + 2147483648 by omega) (by omega) (show (y : Int) < 2147483648 + 2147483648 by omega), Option.bind_some]
  exact (tri0 x y 2147483648).trans ((two_n 3 109 x y (by decide) (by decide) (by omega) (by omega) (by omega) (by omega)).symm.trans (narrow_ops.divs x y (by omega) (by omega) (by omega) (by omega))).symm
theorem r32_4 (x y : Nat) (hx : x < 4294967296) (hy : y < 4294967296) (a b : Int) (a0 : 0 ≤ a) (b0 : 0 ≤ b) (ex : lowV a 32 = x) (ey : lowV b 32 = y) : avocetref02_Two.j0 300 a b (14 + 4) 32 false = some ((narV 4 x y).1, (narV 4 x y).2, true) := by
  obtain ⟨s, hs⟩ : ∃ s : Nat, y % 32 = s := ⟨_, rfl⟩
  have hs1 : s < 32 := by omega
  have hm : wrap64 (Int.tmod (y : Int) (IntKind.u64.wrap 32)) = (s : Int) := by
    rw [show IntKind.u64.wrap 32 = 32 by rw [wrap_u64_]; rfl, Int.tmod_eq_emod_of_nonneg (by omega)]
    unfold wrap64
    omega
  have ht : ((y : Int) % 32).toNat = s := by omega
  have hx2 : x < 18446744073709551616 := by omega
  have hx3 : x < 2 ^ 32 := by rw [show (2 : Nat) ^ 32 = 4294967296 by decide]; exact hx
  show avocetref02_Two.j0 (299 + 1) a b (14 + 4) 32 false = _
  simp only [avocetref02_Two.j0]
  rw [if_neg (by decide), low_f a 32 a0, Option.bind_some, low_f b 32 b0, Option.bind_some, ex, ey, if_neg (by omega)]
  rw [if_neg (by decide), if_neg (by decide), if_neg (by decide), if_pos (by decide), show wrap64 (14 + 4 - 17) = 1 by unfold wrap64; omega, divided_f 1 x y 32 (Or.inl rfl) (by decide) (by omega) (show (x : Int) < 2147483648 + 2147483648 by omega) (by omega) (show (y : Int) < 2147483648 + 2147483648 by omega), Option.bind_some]
  exact (tri1 x y 2147483648).trans ((two_n 4 (109 + 1) x y (by decide) (by decide) (by omega) (by omega) (by omega) (by omega)).symm.trans (narrow_ops.divu x y (by omega) (by omega) (by omega) (by omega))).symm
theorem r32_5 (x y : Nat) (hx : x < 4294967296) (hy : y < 4294967296) (a b : Int) (a0 : 0 ≤ a) (b0 : 0 ≤ b) (ex : lowV a 32 = x) (ey : lowV b 32 = y) : avocetref02_Two.j0 300 a b (14 + 5) 32 false = some ((narV 5 x y).1, (narV 5 x y).2, true) := by
  obtain ⟨s, hs⟩ : ∃ s : Nat, y % 32 = s := ⟨_, rfl⟩
  have hs1 : s < 32 := by omega
  have hm : wrap64 (Int.tmod (y : Int) (IntKind.u64.wrap 32)) = (s : Int) := by
    rw [show IntKind.u64.wrap 32 = 32 by rw [wrap_u64_]; rfl, Int.tmod_eq_emod_of_nonneg (by omega)]
    unfold wrap64
    omega
  have ht : ((y : Int) % 32).toNat = s := by omega
  have hx2 : x < 18446744073709551616 := by omega
  have hx3 : x < 2 ^ 32 := by rw [show (2 : Nat) ^ 32 = 4294967296 by decide]; exact hx
  show avocetref02_Two.j0 (299 + 1) a b (14 + 5) 32 false = _
  simp only [avocetref02_Two.j0]
  rw [if_neg (by decide), low_f a 32 a0, Option.bind_some, low_f b 32 b0, Option.bind_some, ex, ey, if_neg (by omega)]
  rw [if_neg (by decide), if_neg (by decide), if_neg (by decide), if_pos (by decide), show wrap64 (14 + 5 - 17) = 2 by unfold wrap64; omega, divided_f 2 x y 32 (Or.inl rfl) (by decide) (by omega) (show (x : Int) < 2147483648 + 2147483648 by omega) (by omega) (show (y : Int) < 2147483648 + 2147483648 by omega), Option.bind_some]
  exact (tri2 x y 2147483648).trans ((two_n 5 (109 + 2) x y (by decide) (by decide) (by omega) (by omega) (by omega) (by omega)).symm.trans (narrow_ops.rems x y (by omega) (by omega) (by omega) (by omega))).symm
theorem r32_6 (x y : Nat) (hx : x < 4294967296) (hy : y < 4294967296) (a b : Int) (a0 : 0 ≤ a) (b0 : 0 ≤ b) (ex : lowV a 32 = x) (ey : lowV b 32 = y) : avocetref02_Two.j0 300 a b (14 + 6) 32 false = some ((narV 6 x y).1, (narV 6 x y).2, true) := by
  obtain ⟨s, hs⟩ : ∃ s : Nat, y % 32 = s := ⟨_, rfl⟩
  have hs1 : s < 32 := by omega
  have hm : wrap64 (Int.tmod (y : Int) (IntKind.u64.wrap 32)) = (s : Int) := by
    rw [show IntKind.u64.wrap 32 = 32 by rw [wrap_u64_]; rfl, Int.tmod_eq_emod_of_nonneg (by omega)]
    unfold wrap64
    omega
  have ht : ((y : Int) % 32).toNat = s := by omega
  have hx2 : x < 18446744073709551616 := by omega
  have hx3 : x < 2 ^ 32 := by rw [show (2 : Nat) ^ 32 = 4294967296 by decide]; exact hx
  show avocetref02_Two.j0 (299 + 1) a b (14 + 6) 32 false = _
  simp only [avocetref02_Two.j0]
  rw [if_neg (by decide), low_f a 32 a0, Option.bind_some, low_f b 32 b0, Option.bind_some, ex, ey, if_neg (by omega)]
  rw [if_neg (by decide), if_neg (by decide), if_neg (by decide), if_pos (by decide), show wrap64 (14 + 6 - 17) = 3 by unfold wrap64; omega, divided_f 3 x y 32 (Or.inl rfl) (by decide) (by omega) (show (x : Int) < 2147483648 + 2147483648 by omega) (by omega) (show (y : Int) < 2147483648 + 2147483648 by omega), Option.bind_some]
  exact (tri3 x y 2147483648).trans ((two_n 6 (109 + 3) x y (by decide) (by decide) (by omega) (by omega) (by omega) (by omega)).symm.trans (narrow_ops.remu x y (by omega) (by omega) (by omega) (by omega))).symm
theorem r32_7 (x y : Nat) (hx : x < 4294967296) (hy : y < 4294967296) (a b : Int) (a0 : 0 ≤ a) (b0 : 0 ≤ b) (ex : lowV a 32 = x) (ey : lowV b 32 = y) : avocetref02_Two.j0 300 a b (14 + 7) 32 false = some ((narV 7 x y).1, (narV 7 x y).2, true) := by
  obtain ⟨s, hs⟩ : ∃ s : Nat, y % 32 = s := ⟨_, rfl⟩
  have hs1 : s < 32 := by omega
  have hm : wrap64 (Int.tmod (y : Int) (IntKind.u64.wrap 32)) = (s : Int) := by
    rw [show IntKind.u64.wrap 32 = 32 by rw [wrap_u64_]; rfl, Int.tmod_eq_emod_of_nonneg (by omega)]
    unfold wrap64
    omega
  have ht : ((y : Int) % 32).toNat = s := by omega
  have hx2 : x < 18446744073709551616 := by omega
  have hx3 : x < 2 ^ 32 := by rw [show (2 : Nat) ^ 32 = 4294967296 by decide]; exact hx
  show avocetref02_Two.j0 (299 + 1) a b (14 + 7) 32 false = _
  simp only [avocetref02_Two.j0]
  rw [if_neg (by decide), low_f a 32 a0, Option.bind_some, low_f b 32 b0, Option.bind_some, ex, ey, if_neg (by omega)]
  rw [if_neg (by decide), if_neg (by decide), if_neg (by decide), if_neg (by decide), if_pos (by decide)]
  have e : narV 7 x y = (bits .and .u64 (bits .and .u64 (x : Int) (y : Int)) 4294967295, 0) := rfl
  have l : x &&& y < 2 ^ 32 := Nat.and_lt_two_pow _ (by omega)
  rw [show (2 : Nat) ^ 32 = 4294967296 from rfl] at l
  rw [e, and_u64_nat x y (by omega) (by omega), mask_ _ (by omega) (by omega), Int.emod_eq_of_lt (by omega) (by omega)]
theorem r32_8 (x y : Nat) (hx : x < 4294967296) (hy : y < 4294967296) (a b : Int) (a0 : 0 ≤ a) (b0 : 0 ≤ b) (ex : lowV a 32 = x) (ey : lowV b 32 = y) : avocetref02_Two.j0 300 a b (14 + 8) 32 false = some ((narV 8 x y).1, (narV 8 x y).2, true) := by
  obtain ⟨s, hs⟩ : ∃ s : Nat, y % 32 = s := ⟨_, rfl⟩
  have hs1 : s < 32 := by omega
  have hm : wrap64 (Int.tmod (y : Int) (IntKind.u64.wrap 32)) = (s : Int) := by
    rw [show IntKind.u64.wrap 32 = 32 by rw [wrap_u64_]; rfl, Int.tmod_eq_emod_of_nonneg (by omega)]
    unfold wrap64
    omega
  have ht : ((y : Int) % 32).toNat = s := by omega
  have hx2 : x < 18446744073709551616 := by omega
  have hx3 : x < 2 ^ 32 := by rw [show (2 : Nat) ^ 32 = 4294967296 by decide]; exact hx
  show avocetref02_Two.j0 (299 + 1) a b (14 + 8) 32 false = _
  simp only [avocetref02_Two.j0]
  rw [if_neg (by decide), low_f a 32 a0, Option.bind_some, low_f b 32 b0, Option.bind_some, ex, ey, if_neg (by omega)]
  rw [if_neg (by decide), if_neg (by decide), if_neg (by decide), if_neg (by decide), if_neg (by decide), if_pos (by decide)]
  have e : narV 8 x y = (bits .and .u64 (bits .or .u64 (x : Int) (y : Int)) 4294967295, 0) := rfl
  have l : x ||| y < 2 ^ 32 := Nat.or_lt_two_pow (by omega) (by omega)
  rw [show (2 : Nat) ^ 32 = 4294967296 from rfl] at l
  rw [e, or_u64_nat x y (by omega) (by omega), mask_ _ (by omega) (by omega), Int.emod_eq_of_lt (by omega) (by omega)]
theorem r32_9 (x y : Nat) (hx : x < 4294967296) (hy : y < 4294967296) (a b : Int) (a0 : 0 ≤ a) (b0 : 0 ≤ b) (ex : lowV a 32 = x) (ey : lowV b 32 = y) : avocetref02_Two.j0 300 a b (14 + 9) 32 false = some ((narV 9 x y).1, (narV 9 x y).2, true) := by
  obtain ⟨s, hs⟩ : ∃ s : Nat, y % 32 = s := ⟨_, rfl⟩
  have hs1 : s < 32 := by omega
  have hm : wrap64 (Int.tmod (y : Int) (IntKind.u64.wrap 32)) = (s : Int) := by
    rw [show IntKind.u64.wrap 32 = 32 by rw [wrap_u64_]; rfl, Int.tmod_eq_emod_of_nonneg (by omega)]
    unfold wrap64
    omega
  have ht : ((y : Int) % 32).toNat = s := by omega
  have hx2 : x < 18446744073709551616 := by omega
  have hx3 : x < 2 ^ 32 := by rw [show (2 : Nat) ^ 32 = 4294967296 by decide]; exact hx
  show avocetref02_Two.j0 (299 + 1) a b (14 + 9) 32 false = _
  simp only [avocetref02_Two.j0]
  rw [if_neg (by decide), low_f a 32 a0, Option.bind_some, low_f b 32 b0, Option.bind_some, ex, ey, if_neg (by omega)]
  rw [if_neg (by decide), if_neg (by decide), if_neg (by decide), if_neg (by decide), if_neg (by decide), if_neg (by decide), if_pos (by decide)]
  have e : narV 9 x y = (bits .and .u64 (bits .xor .u64 (x : Int) (y : Int)) 4294967295, 0) := rfl
  have l : x ^^^ y < 2 ^ 32 := Nat.xor_lt_two_pow (by omega) (by omega)
  rw [show (2 : Nat) ^ 32 = 4294967296 from rfl] at l
  rw [e, xor_u64_nat x y (by omega) (by omega), mask_ _ (by omega) (by omega), Int.emod_eq_of_lt (by omega) (by omega)]
theorem r32_10 (x y : Nat) (hx : x < 4294967296) (hy : y < 4294967296) (a b : Int) (a0 : 0 ≤ a) (b0 : 0 ≤ b) (ex : lowV a 32 = x) (ey : lowV b 32 = y) : avocetref02_Two.j0 300 a b (14 + 10) 32 false = some ((narV 10 x y).1, (narV 10 x y).2, true) := by
  obtain ⟨s, hs⟩ : ∃ s : Nat, y % 32 = s := ⟨_, rfl⟩
  have hs1 : s < 32 := by omega
  have hm : wrap64 (Int.tmod (y : Int) (IntKind.u64.wrap 32)) = (s : Int) := by
    rw [show IntKind.u64.wrap 32 = 32 by rw [wrap_u64_]; rfl, Int.tmod_eq_emod_of_nonneg (by omega)]
    unfold wrap64
    omega
  have ht : ((y : Int) % 32).toNat = s := by omega
  have hx2 : x < 18446744073709551616 := by omega
  have hx3 : x < 2 ^ 32 := by rw [show (2 : Nat) ^ 32 = 4294967296 by decide]; exact hx
  show avocetref02_Two.j0 (299 + 1) a b (14 + 10) 32 false = _
  simp only [avocetref02_Two.j0]
  rw [if_neg (by decide), low_f a 32 a0, Option.bind_some, low_f b 32 b0, Option.bind_some, ex, ey, if_neg (by omega)]
  rw [if_neg (by decide), if_neg (by decide), if_neg (by decide), if_neg (by decide), if_neg (by decide), if_neg (by decide), if_neg (by decide), if_neg (by decide), hm, show wrap64 (14 + 10 - 24) = 0 by unfold wrap64; omega]
  have t := turned_f 0 32 x s (x * 2 ^ s % 2 ^ 32) 170 (by decide) (by decide) hs1 hx2 (Nat.mod_lt _ (by decide)) (dig0 32 x s)
  rw [show 170 + 4 * 32 + 1 = 299 from rfl] at t
  rw [show (((32 : Nat) : Int)) = 32 from rfl] at t
  rw [t, Option.bind_some]
  have e : narV 10 x y = ((x : Int) * 2 ^ ((y : Int) % 32).toNat % 4294967296, 0) := rfl
  rw [e, ht]
  exact congrArg (fun z : Int => some (z, (0 : Int), true)) (cast_shl x s 4294967296).symm
theorem r32_11 (x y : Nat) (hx : x < 4294967296) (hy : y < 4294967296) (a b : Int) (a0 : 0 ≤ a) (b0 : 0 ≤ b) (ex : lowV a 32 = x) (ey : lowV b 32 = y) : avocetref02_Two.j0 300 a b (14 + 11) 32 false = some ((narV 11 x y).1, (narV 11 x y).2, true) := by
  obtain ⟨s, hs⟩ : ∃ s : Nat, y % 32 = s := ⟨_, rfl⟩
  have hs1 : s < 32 := by omega
  have hm : wrap64 (Int.tmod (y : Int) (IntKind.u64.wrap 32)) = (s : Int) := by
    rw [show IntKind.u64.wrap 32 = 32 by rw [wrap_u64_]; rfl, Int.tmod_eq_emod_of_nonneg (by omega)]
    unfold wrap64
    omega
  have ht : ((y : Int) % 32).toNat = s := by omega
  have hx2 : x < 18446744073709551616 := by omega
  have hx3 : x < 2 ^ 32 := by rw [show (2 : Nat) ^ 32 = 4294967296 by decide]; exact hx
  show avocetref02_Two.j0 (299 + 1) a b (14 + 11) 32 false = _
  simp only [avocetref02_Two.j0]
  rw [if_neg (by decide), low_f a 32 a0, Option.bind_some, low_f b 32 b0, Option.bind_some, ex, ey, if_neg (by omega)]
  rw [if_neg (by decide), if_neg (by decide), if_neg (by decide), if_neg (by decide), if_neg (by decide), if_neg (by decide), if_neg (by decide), if_neg (by decide), hm, show wrap64 (14 + 11 - 24) = 1 by unfold wrap64; omega]
  have t := turned_f 1 32 x s (sarN 32 x s) 170 (by decide) (by decide) hs1 hx2 (sarN_lt 32 x s hs1 hx3) (dig1 32 x s hs1 hx3)
  rw [show 170 + 4 * 32 + 1 = 299 from rfl] at t
  rw [show (((32 : Nat) : Int)) = 32 from rfl] at t
  rw [t, Option.bind_some]
  have e : narV 11 x y = (wrap32 x / 2 ^ ((y : Int) % 32).toNat % 4294967296, 0) := rfl
  rw [e, ht, sar_int 32 x s (by decide) hs1 hx3 2147483648 4294967296 rfl rfl (wrap32 x) (by unfold wrap32; split <;> omega)]
theorem r32_12 (x y : Nat) (hx : x < 4294967296) (hy : y < 4294967296) (a b : Int) (a0 : 0 ≤ a) (b0 : 0 ≤ b) (ex : lowV a 32 = x) (ey : lowV b 32 = y) : avocetref02_Two.j0 300 a b (14 + 12) 32 false = some ((narV 12 x y).1, (narV 12 x y).2, true) := by
  obtain ⟨s, hs⟩ : ∃ s : Nat, y % 32 = s := ⟨_, rfl⟩
  have hs1 : s < 32 := by omega
  have hm : wrap64 (Int.tmod (y : Int) (IntKind.u64.wrap 32)) = (s : Int) := by
    rw [show IntKind.u64.wrap 32 = 32 by rw [wrap_u64_]; rfl, Int.tmod_eq_emod_of_nonneg (by omega)]
    unfold wrap64
    omega
  have ht : ((y : Int) % 32).toNat = s := by omega
  have hx2 : x < 18446744073709551616 := by omega
  have hx3 : x < 2 ^ 32 := by rw [show (2 : Nat) ^ 32 = 4294967296 by decide]; exact hx
  show avocetref02_Two.j0 (299 + 1) a b (14 + 12) 32 false = _
  simp only [avocetref02_Two.j0]
  rw [if_neg (by decide), low_f a 32 a0, Option.bind_some, low_f b 32 b0, Option.bind_some, ex, ey, if_neg (by omega)]
  rw [if_neg (by decide), if_neg (by decide), if_neg (by decide), if_neg (by decide), if_neg (by decide), if_neg (by decide), if_neg (by decide), if_neg (by decide), hm, show wrap64 (14 + 12 - 24) = 2 by unfold wrap64; omega]
  have t := turned_f 2 32 x s (x / 2 ^ s) 170 (by decide) (by decide) hs1 hx2 (Nat.lt_of_le_of_lt (Nat.div_le_self _ _) hx3) (dig2 32 x s hx3)
  rw [show 170 + 4 * 32 + 1 = 299 from rfl] at t
  rw [show (((32 : Nat) : Int)) = 32 from rfl] at t
  rw [t, Option.bind_some]
  have e : narV 12 x y = (IntKind.u64.wrap ((x : Int) / 2 ^ ((y : Int) % 32).toNat), 0) := rfl
  have l := Nat.lt_of_le_of_lt (Nat.div_le_self x (2 ^ s)) hx2
  rw [e, ht, cast_shr, wnat _ l]
theorem r32_13 (x y : Nat) (hx : x < 4294967296) (hy : y < 4294967296) (a b : Int) (a0 : 0 ≤ a) (b0 : 0 ≤ b) (ex : lowV a 32 = x) (ey : lowV b 32 = y) : avocetref02_Two.j0 300 a b (14 + 13) 32 false = some ((narV 13 x y).1, (narV 13 x y).2, true) := by
  obtain ⟨s, hs⟩ : ∃ s : Nat, y % 32 = s := ⟨_, rfl⟩
  have hs1 : s < 32 := by omega
  have hm : wrap64 (Int.tmod (y : Int) (IntKind.u64.wrap 32)) = (s : Int) := by
    rw [show IntKind.u64.wrap 32 = 32 by rw [wrap_u64_]; rfl, Int.tmod_eq_emod_of_nonneg (by omega)]
    unfold wrap64
    omega
  have ht : ((y : Int) % 32).toNat = s := by omega
  have hx2 : x < 18446744073709551616 := by omega
  have hx3 : x < 2 ^ 32 := by rw [show (2 : Nat) ^ 32 = 4294967296 by decide]; exact hx
  show avocetref02_Two.j0 (299 + 1) a b (14 + 13) 32 false = _
  simp only [avocetref02_Two.j0]
  rw [if_neg (by decide), low_f a 32 a0, Option.bind_some, low_f b 32 b0, Option.bind_some, ex, ey, if_neg (by omega)]
  rw [if_neg (by decide), if_neg (by decide), if_neg (by decide), if_neg (by decide), if_neg (by decide), if_neg (by decide), if_neg (by decide), if_neg (by decide), hm, show wrap64 (14 + 13 - 24) = 3 by unfold wrap64; omega]
  have t := turned_f 3 32 x s (rotN 32 x s) 170 (by decide) (by decide) hs1 hx2 (rotN_lt 32 x s (by omega) hx3) (dig3 32 x s hs1 hx3)
  rw [show 170 + 4 * 32 + 1 = 299 from rfl] at t
  rw [show (((32 : Nat) : Int)) = 32 from rfl] at t
  rw [t, Option.bind_some]
  have e : narV 13 x y = (IntKind.u64.wrap (rot32 x ((y : Int) % 32)), 0) := rfl
  have l := rotN_lt 32 x s (by omega) hx
  rw [show (2 : Nat) ^ 32 = 4294967296 from rfl] at l
  rw [e, rot32_nat x s _ hx (by omega), wnat _ (by omega)]
theorem r32_14 (x y : Nat) (hx : x < 4294967296) (hy : y < 4294967296) (a b : Int) (a0 : 0 ≤ a) (b0 : 0 ≤ b) (ex : lowV a 32 = x) (ey : lowV b 32 = y) : avocetref02_Two.j0 300 a b (14 + 14) 32 false = some ((narV 14 x y).1, (narV 14 x y).2, true) := by
  obtain ⟨s, hs⟩ : ∃ s : Nat, y % 32 = s := ⟨_, rfl⟩
  have hs1 : s < 32 := by omega
  have hm : wrap64 (Int.tmod (y : Int) (IntKind.u64.wrap 32)) = (s : Int) := by
    rw [show IntKind.u64.wrap 32 = 32 by rw [wrap_u64_]; rfl, Int.tmod_eq_emod_of_nonneg (by omega)]
    unfold wrap64
    omega
  have ht : ((y : Int) % 32).toNat = s := by omega
  have hx2 : x < 18446744073709551616 := by omega
  have hx3 : x < 2 ^ 32 := by rw [show (2 : Nat) ^ 32 = 4294967296 by decide]; exact hx
  show avocetref02_Two.j0 (299 + 1) a b (14 + 14) 32 false = _
  simp only [avocetref02_Two.j0]
  rw [if_neg (by decide), low_f a 32 a0, Option.bind_some, low_f b 32 b0, Option.bind_some, ex, ey, if_neg (by omega)]
  rw [if_neg (by decide), if_neg (by decide), if_neg (by decide), if_neg (by decide), if_neg (by decide), if_neg (by decide), if_neg (by decide), if_neg (by decide), hm, show wrap64 (14 + 14 - 24) = 4 by unfold wrap64; omega]
  have t := turned_f 4 32 x s (rotN 32 x ((32 - s) % 32)) 170 (by decide) (by decide) hs1 hx2 (rotN_lt 32 x _ (by omega) hx3) (dig4 32 x s hs1 hx3)
  rw [show 170 + 4 * 32 + 1 = 299 from rfl] at t
  rw [show (((32 : Nat) : Int)) = 32 from rfl] at t
  rw [t, Option.bind_some]
  have e : narV 14 x y = (IntKind.u64.wrap (rot32 x (-((y : Int) % 32))), 0) := rfl
  have l := rotN_lt 32 x ((32 - s) % 32) (by omega) hx
  rw [show (2 : Nat) ^ 32 = 4294967296 from rfl] at l
  rw [e, rot32_nat x ((32 - s) % 32) _ hx (by omega), wnat _ (by omega)]
theorem ref32_j (j : Int) (hj : 0 ≤ j ∧ j ≤ 14) (x y : Nat) (hx : x < 4294967296) (hy : y < 4294967296) (a b : Int) (a0 : 0 ≤ a) (b0 : 0 ≤ b) (ex : lowV a 32 = x) (ey : lowV b 32 = y) : avocetref02_Two.j0 300 a b (14 + j) 32 false = some ((narV j x y).1, (narV j x y).2, true) := by
  obtain rfl | rfl | rfl | rfl | rfl | rfl | rfl | rfl | rfl | rfl | rfl | rfl | rfl | rfl | rfl : j = 0 ∨ j = 1 ∨ j = 2 ∨ j = 3 ∨ j = 4 ∨ j = 5 ∨ j = 6 ∨ j = 7 ∨ j = 8 ∨ j = 9 ∨ j = 10 ∨ j = 11 ∨ j = 12 ∨ j = 13 ∨ j = 14 := by omega
  · exact r32_0 x y hx hy a b a0 b0 ex ey
  · exact r32_1 x y hx hy a b a0 b0 ex ey
  · exact r32_2 x y hx hy a b a0 b0 ex ey
  · exact r32_3 x y hx hy a b a0 b0 ex ey
  · exact r32_4 x y hx hy a b a0 b0 ex ey
  · exact r32_5 x y hx hy a b a0 b0 ex ey
  · exact r32_6 x y hx hy a b a0 b0 ex ey
  · exact r32_7 x y hx hy a b a0 b0 ex ey
  · exact r32_8 x y hx hy a b a0 b0 ex ey
  · exact r32_9 x y hx hy a b a0 b0 ex ey
  · exact r32_10 x y hx hy a b a0 b0 ex ey
  · exact r32_11 x y hx hy a b a0 b0 ex ey
  · exact r32_12 x y hx hy a b a0 b0 ex ey
  · exact r32_13 x y hx hy a b a0 b0 ex ey
  · exact r32_14 x y hx hy a b a0 b0 ex ey
theorem r64_0 (x y : Nat) (hx : x < 18446744073709551616) (hy : y < 18446744073709551616) (a b : Int) (a0 : 0 ≤ a) (b0 : 0 ≤ b) (ex : lowV a 64 = x) (ey : lowV b 64 = y) : avocetref02_Two.j0 300 a b (14 + 0) 64 false = some ((wideV 0 x y).1, (wideV 0 x y).2, true) := by
  obtain ⟨s, hs⟩ : ∃ s : Nat, y % 64 = s := ⟨_, rfl⟩
  have hs1 : s < 64 := by omega
  have hm : wrap64 (Int.tmod (y : Int) (IntKind.u64.wrap 64)) = (s : Int) := by
    rw [show IntKind.u64.wrap 64 = 64 by rw [wrap_u64_]; rfl, Int.tmod_eq_emod_of_nonneg (by omega)]
    unfold wrap64
    omega
  have ht : ((y : Int) % 64).toNat = s := by omega
  have hx2 : x < 18446744073709551616 := by omega
  have hx3 : x < 2 ^ 64 := by rw [show (2 : Nat) ^ 64 = 18446744073709551616 by decide]; exact hx
  show avocetref02_Two.j0 (299 + 1) a b (14 + 0) 64 false = _
  simp only [avocetref02_Two.j0]
  rw [if_neg (by decide), low_f a 64 a0, Option.bind_some, low_f b 64 b0, Option.bind_some, ex, ey, if_neg (by omega)]
  rw [if_pos (by decide), low_f _ _ (uw_lo _), Option.bind_some, low_wrap _ _ (Or.inr rfl)]
  have e : wideV 0 x y = (IntKind.u64.wrap ((x : Int) + y), 0) := rfl
  rw [e, wrap_u64_]
  rfl
theorem r64_1 (x y : Nat) (hx : x < 18446744073709551616) (hy : y < 18446744073709551616) (a b : Int) (a0 : 0 ≤ a) (b0 : 0 ≤ b) (ex : lowV a 64 = x) (ey : lowV b 64 = y) : avocetref02_Two.j0 300 a b (14 + 1) 64 false = some ((wideV 1 x y).1, (wideV 1 x y).2, true) := by
  obtain ⟨s, hs⟩ : ∃ s : Nat, y % 64 = s := ⟨_, rfl⟩
  have hs1 : s < 64 := by omega
  have hm : wrap64 (Int.tmod (y : Int) (IntKind.u64.wrap 64)) = (s : Int) := by
    rw [show IntKind.u64.wrap 64 = 64 by rw [wrap_u64_]; rfl, Int.tmod_eq_emod_of_nonneg (by omega)]
    unfold wrap64
    omega
  have ht : ((y : Int) % 64).toNat = s := by omega
  have hx2 : x < 18446744073709551616 := by omega
  have hx3 : x < 2 ^ 64 := by rw [show (2 : Nat) ^ 64 = 18446744073709551616 by decide]; exact hx
  show avocetref02_Two.j0 (299 + 1) a b (14 + 1) 64 false = _
  simp only [avocetref02_Two.j0]
  rw [if_neg (by decide), low_f a 64 a0, Option.bind_some, low_f b 64 b0, Option.bind_some, ex, ey, if_neg (by omega)]
  rw [if_neg (by decide), if_pos (by decide), low_f _ _ (uw_lo _), Option.bind_some, low_wrap _ _ (Or.inr rfl)]
  have e : wideV 1 x y = (IntKind.u64.wrap ((x : Int) - y), 0) := rfl
  rw [e, wrap_u64_]
  rfl
theorem r64_2 (x y : Nat) (hx : x < 18446744073709551616) (hy : y < 18446744073709551616) (a b : Int) (a0 : 0 ≤ a) (b0 : 0 ≤ b) (ex : lowV a 64 = x) (ey : lowV b 64 = y) : avocetref02_Two.j0 300 a b (14 + 2) 64 false = some ((wideV 2 x y).1, (wideV 2 x y).2, true) := by
  obtain ⟨s, hs⟩ : ∃ s : Nat, y % 64 = s := ⟨_, rfl⟩
  have hs1 : s < 64 := by omega
  have hm : wrap64 (Int.tmod (y : Int) (IntKind.u64.wrap 64)) = (s : Int) := by
    rw [show IntKind.u64.wrap 64 = 64 by rw [wrap_u64_]; rfl, Int.tmod_eq_emod_of_nonneg (by omega)]
    unfold wrap64
    omega
  have ht : ((y : Int) % 64).toNat = s := by omega
  have hx2 : x < 18446744073709551616 := by omega
  have hx3 : x < 2 ^ 64 := by rw [show (2 : Nat) ^ 64 = 18446744073709551616 by decide]; exact hx
  show avocetref02_Two.j0 (299 + 1) a b (14 + 2) 64 false = _
  simp only [avocetref02_Two.j0]
  rw [if_neg (by decide), low_f a 64 a0, Option.bind_some, low_f b 64 b0, Option.bind_some, ex, ey, if_neg (by omega)]
  rw [if_neg (by decide), if_neg (by decide), if_pos (by decide), low_f _ _ (uw_lo _), Option.bind_some, low_wrap _ _ (Or.inr rfl)]
  have e : wideV 2 x y = (IntKind.u64.wrap ((x : Int) * y), 0) := rfl
  rw [e, wrap_u64_]
  rfl
theorem r64_3 (x y : Nat) (hx : x < 18446744073709551616) (hy : y < 18446744073709551616) (a b : Int) (a0 : 0 ≤ a) (b0 : 0 ≤ b) (ex : lowV a 64 = x) (ey : lowV b 64 = y) : avocetref02_Two.j0 300 a b (14 + 3) 64 false = some ((wideV 3 x y).1, (wideV 3 x y).2, true) := by
  obtain ⟨s, hs⟩ : ∃ s : Nat, y % 64 = s := ⟨_, rfl⟩
  have hs1 : s < 64 := by omega
  have hm : wrap64 (Int.tmod (y : Int) (IntKind.u64.wrap 64)) = (s : Int) := by
    rw [show IntKind.u64.wrap 64 = 64 by rw [wrap_u64_]; rfl, Int.tmod_eq_emod_of_nonneg (by omega)]
    unfold wrap64
    omega
  have ht : ((y : Int) % 64).toNat = s := by omega
  have hx2 : x < 18446744073709551616 := by omega
  have hx3 : x < 2 ^ 64 := by rw [show (2 : Nat) ^ 64 = 18446744073709551616 by decide]; exact hx
  show avocetref02_Two.j0 (299 + 1) a b (14 + 3) 64 false = _
  simp only [avocetref02_Two.j0]
  rw [if_neg (by decide), low_f a 64 a0, Option.bind_some, low_f b 64 b0, Option.bind_some, ex, ey, if_neg (by omega)]
  rw [if_neg (by decide), if_neg (by decide), if_neg (by decide), if_pos (by decide), show wrap64 (14 + 3 - 17) = 0 by unfold wrap64; omega, divided_f 0 x y 64 (Or.inr rfl) (by decide) (by omega) (show (x : Int) < 9223372036854775808 + 9223372036854775808 by omega) (by omega) (show (y : Int) < 9223372036854775808 + 9223372036854775808 by omega), Option.bind_some]
  exact (tri0 x y 9223372036854775808).trans ((two_w 3 127 x y (by decide) (by decide) (by omega) (by omega) (by omega) (by omega)).symm.trans (wide_ops.divs x y (by omega) (by omega) (by omega) (by omega))).symm
theorem r64_4 (x y : Nat) (hx : x < 18446744073709551616) (hy : y < 18446744073709551616) (a b : Int) (a0 : 0 ≤ a) (b0 : 0 ≤ b) (ex : lowV a 64 = x) (ey : lowV b 64 = y) : avocetref02_Two.j0 300 a b (14 + 4) 64 false = some ((wideV 4 x y).1, (wideV 4 x y).2, true) := by
  obtain ⟨s, hs⟩ : ∃ s : Nat, y % 64 = s := ⟨_, rfl⟩
  have hs1 : s < 64 := by omega
  have hm : wrap64 (Int.tmod (y : Int) (IntKind.u64.wrap 64)) = (s : Int) := by
    rw [show IntKind.u64.wrap 64 = 64 by rw [wrap_u64_]; rfl, Int.tmod_eq_emod_of_nonneg (by omega)]
    unfold wrap64
    omega
  have ht : ((y : Int) % 64).toNat = s := by omega
  have hx2 : x < 18446744073709551616 := by omega
  have hx3 : x < 2 ^ 64 := by rw [show (2 : Nat) ^ 64 = 18446744073709551616 by decide]; exact hx
  show avocetref02_Two.j0 (299 + 1) a b (14 + 4) 64 false = _
  simp only [avocetref02_Two.j0]
  rw [if_neg (by decide), low_f a 64 a0, Option.bind_some, low_f b 64 b0, Option.bind_some, ex, ey, if_neg (by omega)]
  rw [if_neg (by decide), if_neg (by decide), if_neg (by decide), if_pos (by decide), show wrap64 (14 + 4 - 17) = 1 by unfold wrap64; omega, divided_f 1 x y 64 (Or.inr rfl) (by decide) (by omega) (show (x : Int) < 9223372036854775808 + 9223372036854775808 by omega) (by omega) (show (y : Int) < 9223372036854775808 + 9223372036854775808 by omega), Option.bind_some]
  exact (tri1 x y 9223372036854775808).trans ((two_w 4 (127 + 1) x y (by decide) (by decide) (by omega) (by omega) (by omega) (by omega)).symm.trans (wide_ops.divu x y (by omega) (by omega) (by omega) (by omega))).symm
theorem r64_5 (x y : Nat) (hx : x < 18446744073709551616) (hy : y < 18446744073709551616) (a b : Int) (a0 : 0 ≤ a) (b0 : 0 ≤ b) (ex : lowV a 64 = x) (ey : lowV b 64 = y) : avocetref02_Two.j0 300 a b (14 + 5) 64 false = some ((wideV 5 x y).1, (wideV 5 x y).2, true) := by
  obtain ⟨s, hs⟩ : ∃ s : Nat, y % 64 = s := ⟨_, rfl⟩
  have hs1 : s < 64 := by omega
  have hm : wrap64 (Int.tmod (y : Int) (IntKind.u64.wrap 64)) = (s : Int) := by
    rw [show IntKind.u64.wrap 64 = 64 by rw [wrap_u64_]; rfl, Int.tmod_eq_emod_of_nonneg (by omega)]
    unfold wrap64
    omega
  have ht : ((y : Int) % 64).toNat = s := by omega
  have hx2 : x < 18446744073709551616 := by omega
  have hx3 : x < 2 ^ 64 := by rw [show (2 : Nat) ^ 64 = 18446744073709551616 by decide]; exact hx
  show avocetref02_Two.j0 (299 + 1) a b (14 + 5) 64 false = _
  simp only [avocetref02_Two.j0]
  rw [if_neg (by decide), low_f a 64 a0, Option.bind_some, low_f b 64 b0, Option.bind_some, ex, ey, if_neg (by omega)]
  rw [if_neg (by decide), if_neg (by decide), if_neg (by decide), if_pos (by decide), show wrap64 (14 + 5 - 17) = 2 by unfold wrap64; omega, divided_f 2 x y 64 (Or.inr rfl) (by decide) (by omega) (show (x : Int) < 9223372036854775808 + 9223372036854775808 by omega) (by omega) (show (y : Int) < 9223372036854775808 + 9223372036854775808 by omega), Option.bind_some]
  exact (tri2 x y 9223372036854775808).trans ((two_w 5 (127 + 2) x y (by decide) (by decide) (by omega) (by omega) (by omega) (by omega)).symm.trans (wide_ops.rems x y (by omega) (by omega) (by omega) (by omega))).symm
theorem r64_6 (x y : Nat) (hx : x < 18446744073709551616) (hy : y < 18446744073709551616) (a b : Int) (a0 : 0 ≤ a) (b0 : 0 ≤ b) (ex : lowV a 64 = x) (ey : lowV b 64 = y) : avocetref02_Two.j0 300 a b (14 + 6) 64 false = some ((wideV 6 x y).1, (wideV 6 x y).2, true) := by
  obtain ⟨s, hs⟩ : ∃ s : Nat, y % 64 = s := ⟨_, rfl⟩
  have hs1 : s < 64 := by omega
  have hm : wrap64 (Int.tmod (y : Int) (IntKind.u64.wrap 64)) = (s : Int) := by
    rw [show IntKind.u64.wrap 64 = 64 by rw [wrap_u64_]; rfl, Int.tmod_eq_emod_of_nonneg (by omega)]
    unfold wrap64
    omega
  have ht : ((y : Int) % 64).toNat = s := by omega
  have hx2 : x < 18446744073709551616 := by omega
  have hx3 : x < 2 ^ 64 := by rw [show (2 : Nat) ^ 64 = 18446744073709551616 by decide]; exact hx
  show avocetref02_Two.j0 (299 + 1) a b (14 + 6) 64 false = _
  simp only [avocetref02_Two.j0]
  rw [if_neg (by decide), low_f a 64 a0, Option.bind_some, low_f b 64 b0, Option.bind_some, ex, ey, if_neg (by omega)]
  rw [if_neg (by decide), if_neg (by decide), if_neg (by decide), if_pos (by decide), show wrap64 (14 + 6 - 17) = 3 by unfold wrap64; omega, divided_f 3 x y 64 (Or.inr rfl) (by decide) (by omega) (show (x : Int) < 9223372036854775808 + 9223372036854775808 by omega) (by omega) (show (y : Int) < 9223372036854775808 + 9223372036854775808 by omega), Option.bind_some]
  exact (tri3 x y 9223372036854775808).trans ((two_w 6 (127 + 3) x y (by decide) (by decide) (by omega) (by omega) (by omega) (by omega)).symm.trans (wide_ops.remu x y (by omega) (by omega) (by omega) (by omega))).symm
theorem r64_7 (x y : Nat) (hx : x < 18446744073709551616) (hy : y < 18446744073709551616) (a b : Int) (a0 : 0 ≤ a) (b0 : 0 ≤ b) (ex : lowV a 64 = x) (ey : lowV b 64 = y) : avocetref02_Two.j0 300 a b (14 + 7) 64 false = some ((wideV 7 x y).1, (wideV 7 x y).2, true) := by
  obtain ⟨s, hs⟩ : ∃ s : Nat, y % 64 = s := ⟨_, rfl⟩
  have hs1 : s < 64 := by omega
  have hm : wrap64 (Int.tmod (y : Int) (IntKind.u64.wrap 64)) = (s : Int) := by
    rw [show IntKind.u64.wrap 64 = 64 by rw [wrap_u64_]; rfl, Int.tmod_eq_emod_of_nonneg (by omega)]
    unfold wrap64
    omega
  have ht : ((y : Int) % 64).toNat = s := by omega
  have hx2 : x < 18446744073709551616 := by omega
  have hx3 : x < 2 ^ 64 := by rw [show (2 : Nat) ^ 64 = 18446744073709551616 by decide]; exact hx
  show avocetref02_Two.j0 (299 + 1) a b (14 + 7) 64 false = _
  simp only [avocetref02_Two.j0]
  rw [if_neg (by decide), low_f a 64 a0, Option.bind_some, low_f b 64 b0, Option.bind_some, ex, ey, if_neg (by omega)]
  rw [if_neg (by decide), if_neg (by decide), if_neg (by decide), if_neg (by decide), if_pos (by decide)]
  rfl
theorem r64_8 (x y : Nat) (hx : x < 18446744073709551616) (hy : y < 18446744073709551616) (a b : Int) (a0 : 0 ≤ a) (b0 : 0 ≤ b) (ex : lowV a 64 = x) (ey : lowV b 64 = y) : avocetref02_Two.j0 300 a b (14 + 8) 64 false = some ((wideV 8 x y).1, (wideV 8 x y).2, true) := by
  obtain ⟨s, hs⟩ : ∃ s : Nat, y % 64 = s := ⟨_, rfl⟩
  have hs1 : s < 64 := by omega
  have hm : wrap64 (Int.tmod (y : Int) (IntKind.u64.wrap 64)) = (s : Int) := by
    rw [show IntKind.u64.wrap 64 = 64 by rw [wrap_u64_]; rfl, Int.tmod_eq_emod_of_nonneg (by omega)]
    unfold wrap64
    omega
  have ht : ((y : Int) % 64).toNat = s := by omega
  have hx2 : x < 18446744073709551616 := by omega
  have hx3 : x < 2 ^ 64 := by rw [show (2 : Nat) ^ 64 = 18446744073709551616 by decide]; exact hx
  show avocetref02_Two.j0 (299 + 1) a b (14 + 8) 64 false = _
  simp only [avocetref02_Two.j0]
  rw [if_neg (by decide), low_f a 64 a0, Option.bind_some, low_f b 64 b0, Option.bind_some, ex, ey, if_neg (by omega)]
  rw [if_neg (by decide), if_neg (by decide), if_neg (by decide), if_neg (by decide), if_neg (by decide), if_pos (by decide)]
  rfl
theorem r64_9 (x y : Nat) (hx : x < 18446744073709551616) (hy : y < 18446744073709551616) (a b : Int) (a0 : 0 ≤ a) (b0 : 0 ≤ b) (ex : lowV a 64 = x) (ey : lowV b 64 = y) : avocetref02_Two.j0 300 a b (14 + 9) 64 false = some ((wideV 9 x y).1, (wideV 9 x y).2, true) := by
  obtain ⟨s, hs⟩ : ∃ s : Nat, y % 64 = s := ⟨_, rfl⟩
  have hs1 : s < 64 := by omega
  have hm : wrap64 (Int.tmod (y : Int) (IntKind.u64.wrap 64)) = (s : Int) := by
    rw [show IntKind.u64.wrap 64 = 64 by rw [wrap_u64_]; rfl, Int.tmod_eq_emod_of_nonneg (by omega)]
    unfold wrap64
    omega
  have ht : ((y : Int) % 64).toNat = s := by omega
  have hx2 : x < 18446744073709551616 := by omega
  have hx3 : x < 2 ^ 64 := by rw [show (2 : Nat) ^ 64 = 18446744073709551616 by decide]; exact hx
  show avocetref02_Two.j0 (299 + 1) a b (14 + 9) 64 false = _
  simp only [avocetref02_Two.j0]
  rw [if_neg (by decide), low_f a 64 a0, Option.bind_some, low_f b 64 b0, Option.bind_some, ex, ey, if_neg (by omega)]
  rw [if_neg (by decide), if_neg (by decide), if_neg (by decide), if_neg (by decide), if_neg (by decide), if_neg (by decide), if_pos (by decide)]
  rfl
theorem r64_10 (x y : Nat) (hx : x < 18446744073709551616) (hy : y < 18446744073709551616) (a b : Int) (a0 : 0 ≤ a) (b0 : 0 ≤ b) (ex : lowV a 64 = x) (ey : lowV b 64 = y) : avocetref02_Two.j0 300 a b (14 + 10) 64 false = some ((wideV 10 x y).1, (wideV 10 x y).2, true) := by
  obtain ⟨s, hs⟩ : ∃ s : Nat, y % 64 = s := ⟨_, rfl⟩
  have hs1 : s < 64 := by omega
  have hm : wrap64 (Int.tmod (y : Int) (IntKind.u64.wrap 64)) = (s : Int) := by
    rw [show IntKind.u64.wrap 64 = 64 by rw [wrap_u64_]; rfl, Int.tmod_eq_emod_of_nonneg (by omega)]
    unfold wrap64
    omega
  have ht : ((y : Int) % 64).toNat = s := by omega
  have hx2 : x < 18446744073709551616 := by omega
  have hx3 : x < 2 ^ 64 := by rw [show (2 : Nat) ^ 64 = 18446744073709551616 by decide]; exact hx
  show avocetref02_Two.j0 (299 + 1) a b (14 + 10) 64 false = _
  simp only [avocetref02_Two.j0]
  rw [if_neg (by decide), low_f a 64 a0, Option.bind_some, low_f b 64 b0, Option.bind_some, ex, ey, if_neg (by omega)]
  rw [if_neg (by decide), if_neg (by decide), if_neg (by decide), if_neg (by decide), if_neg (by decide), if_neg (by decide), if_neg (by decide), if_neg (by decide), hm, show wrap64 (14 + 10 - 24) = 0 by unfold wrap64; omega]
  have t := turned_f 0 64 x s (x * 2 ^ s % 2 ^ 64) 42 (by decide) (by decide) hs1 hx2 (Nat.mod_lt _ (by decide)) (dig0 64 x s)
  rw [show 42 + 4 * 64 + 1 = 299 from rfl] at t
  rw [show (((64 : Nat) : Int)) = 64 from rfl] at t
  rw [t, Option.bind_some]
  have e : wideV 10 x y = (IntKind.u64.wrap ((x : Int) * 2 ^ ((y : Int) % 64).toNat), 0) := rfl
  rw [e, ht, wrap_u64_]
  exact congrArg (fun z : Int => some (z, (0 : Int), true)) (cast_shl x s 18446744073709551616).symm
theorem r64_11 (x y : Nat) (hx : x < 18446744073709551616) (hy : y < 18446744073709551616) (a b : Int) (a0 : 0 ≤ a) (b0 : 0 ≤ b) (ex : lowV a 64 = x) (ey : lowV b 64 = y) : avocetref02_Two.j0 300 a b (14 + 11) 64 false = some ((wideV 11 x y).1, (wideV 11 x y).2, true) := by
  obtain ⟨s, hs⟩ : ∃ s : Nat, y % 64 = s := ⟨_, rfl⟩
  have hs1 : s < 64 := by omega
  have hm : wrap64 (Int.tmod (y : Int) (IntKind.u64.wrap 64)) = (s : Int) := by
    rw [show IntKind.u64.wrap 64 = 64 by rw [wrap_u64_]; rfl, Int.tmod_eq_emod_of_nonneg (by omega)]
    unfold wrap64
    omega
  have ht : ((y : Int) % 64).toNat = s := by omega
  have hx2 : x < 18446744073709551616 := by omega
  have hx3 : x < 2 ^ 64 := by rw [show (2 : Nat) ^ 64 = 18446744073709551616 by decide]; exact hx
  show avocetref02_Two.j0 (299 + 1) a b (14 + 11) 64 false = _
  simp only [avocetref02_Two.j0]
  rw [if_neg (by decide), low_f a 64 a0, Option.bind_some, low_f b 64 b0, Option.bind_some, ex, ey, if_neg (by omega)]
  rw [if_neg (by decide), if_neg (by decide), if_neg (by decide), if_neg (by decide), if_neg (by decide), if_neg (by decide), if_neg (by decide), if_neg (by decide), hm, show wrap64 (14 + 11 - 24) = 1 by unfold wrap64; omega]
  have t := turned_f 1 64 x s (sarN 64 x s) 42 (by decide) (by decide) hs1 hx2 (sarN_lt 64 x s hs1 hx3) (dig1 64 x s hs1 hx3)
  rw [show 42 + 4 * 64 + 1 = 299 from rfl] at t
  rw [show (((64 : Nat) : Int)) = 64 from rfl] at t
  rw [t, Option.bind_some]
  have e : wideV 11 x y = (IntKind.u64.wrap (wrap64 x / 2 ^ ((y : Int) % 64).toNat), 0) := w11 x y
  rw [e, ht, wrap_u64_, sar64 x s hs1 hx hx3]
theorem r64_12 (x y : Nat) (hx : x < 18446744073709551616) (hy : y < 18446744073709551616) (a b : Int) (a0 : 0 ≤ a) (b0 : 0 ≤ b) (ex : lowV a 64 = x) (ey : lowV b 64 = y) : avocetref02_Two.j0 300 a b (14 + 12) 64 false = some ((wideV 12 x y).1, (wideV 12 x y).2, true) := by
  obtain ⟨s, hs⟩ : ∃ s : Nat, y % 64 = s := ⟨_, rfl⟩
  have hs1 : s < 64 := by omega
  have hm : wrap64 (Int.tmod (y : Int) (IntKind.u64.wrap 64)) = (s : Int) := by
    rw [show IntKind.u64.wrap 64 = 64 by rw [wrap_u64_]; rfl, Int.tmod_eq_emod_of_nonneg (by omega)]
    unfold wrap64
    omega
  have ht : ((y : Int) % 64).toNat = s := by omega
  have hx2 : x < 18446744073709551616 := by omega
  have hx3 : x < 2 ^ 64 := by rw [show (2 : Nat) ^ 64 = 18446744073709551616 by decide]; exact hx
  show avocetref02_Two.j0 (299 + 1) a b (14 + 12) 64 false = _
  simp only [avocetref02_Two.j0]
  rw [if_neg (by decide), low_f a 64 a0, Option.bind_some, low_f b 64 b0, Option.bind_some, ex, ey, if_neg (by omega)]
  rw [if_neg (by decide), if_neg (by decide), if_neg (by decide), if_neg (by decide), if_neg (by decide), if_neg (by decide), if_neg (by decide), if_neg (by decide), hm, show wrap64 (14 + 12 - 24) = 2 by unfold wrap64; omega]
  have t := turned_f 2 64 x s (x / 2 ^ s) 42 (by decide) (by decide) hs1 hx2 (Nat.lt_of_le_of_lt (Nat.div_le_self _ _) hx3) (dig2 64 x s hx3)
  rw [show 42 + 4 * 64 + 1 = 299 from rfl] at t
  rw [show (((64 : Nat) : Int)) = 64 from rfl] at t
  rw [t, Option.bind_some]
  have e : wideV 12 x y = ((x : Int) / 2 ^ ((y : Int) % 64).toNat, 0) := rfl
  rw [e, ht, cast_shr]
theorem r64_13 (x y : Nat) (hx : x < 18446744073709551616) (hy : y < 18446744073709551616) (a b : Int) (a0 : 0 ≤ a) (b0 : 0 ≤ b) (ex : lowV a 64 = x) (ey : lowV b 64 = y) : avocetref02_Two.j0 300 a b (14 + 13) 64 false = some ((wideV 13 x y).1, (wideV 13 x y).2, true) := by
  obtain ⟨s, hs⟩ : ∃ s : Nat, y % 64 = s := ⟨_, rfl⟩
  have hs1 : s < 64 := by omega
  have hm : wrap64 (Int.tmod (y : Int) (IntKind.u64.wrap 64)) = (s : Int) := by
    rw [show IntKind.u64.wrap 64 = 64 by rw [wrap_u64_]; rfl, Int.tmod_eq_emod_of_nonneg (by omega)]
    unfold wrap64
    omega
  have ht : ((y : Int) % 64).toNat = s := by omega
  have hx2 : x < 18446744073709551616 := by omega
  have hx3 : x < 2 ^ 64 := by rw [show (2 : Nat) ^ 64 = 18446744073709551616 by decide]; exact hx
  show avocetref02_Two.j0 (299 + 1) a b (14 + 13) 64 false = _
  simp only [avocetref02_Two.j0]
  rw [if_neg (by decide), low_f a 64 a0, Option.bind_some, low_f b 64 b0, Option.bind_some, ex, ey, if_neg (by omega)]
  rw [if_neg (by decide), if_neg (by decide), if_neg (by decide), if_neg (by decide), if_neg (by decide), if_neg (by decide), if_neg (by decide), if_neg (by decide), hm, show wrap64 (14 + 13 - 24) = 3 by unfold wrap64; omega]
  have t := turned_f 3 64 x s (rotN 64 x s) 42 (by decide) (by decide) hs1 hx2 (rotN_lt 64 x s (by omega) hx3) (dig3 64 x s hs1 hx3)
  rw [show 42 + 4 * 64 + 1 = 299 from rfl] at t
  rw [show (((64 : Nat) : Int)) = 64 from rfl] at t
  rw [t, Option.bind_some]
  have e : wideV 13 x y = (rot64 x ((y : Int) % 64), 0) := rfl
  rw [e, rot64_nat x s _ hx (by omega)]
theorem r64_14 (x y : Nat) (hx : x < 18446744073709551616) (hy : y < 18446744073709551616) (a b : Int) (a0 : 0 ≤ a) (b0 : 0 ≤ b) (ex : lowV a 64 = x) (ey : lowV b 64 = y) : avocetref02_Two.j0 300 a b (14 + 14) 64 false = some ((wideV 14 x y).1, (wideV 14 x y).2, true) := by
  obtain ⟨s, hs⟩ : ∃ s : Nat, y % 64 = s := ⟨_, rfl⟩
  have hs1 : s < 64 := by omega
  have hm : wrap64 (Int.tmod (y : Int) (IntKind.u64.wrap 64)) = (s : Int) := by
    rw [show IntKind.u64.wrap 64 = 64 by rw [wrap_u64_]; rfl, Int.tmod_eq_emod_of_nonneg (by omega)]
    unfold wrap64
    omega
  have ht : ((y : Int) % 64).toNat = s := by omega
  have hx2 : x < 18446744073709551616 := by omega
  have hx3 : x < 2 ^ 64 := by rw [show (2 : Nat) ^ 64 = 18446744073709551616 by decide]; exact hx
  show avocetref02_Two.j0 (299 + 1) a b (14 + 14) 64 false = _
  simp only [avocetref02_Two.j0]
  rw [if_neg (by decide), low_f a 64 a0, Option.bind_some, low_f b 64 b0, Option.bind_some, ex, ey, if_neg (by omega)]
  rw [if_neg (by decide), if_neg (by decide), if_neg (by decide), if_neg (by decide), if_neg (by decide), if_neg (by decide), if_neg (by decide), if_neg (by decide), hm, show wrap64 (14 + 14 - 24) = 4 by unfold wrap64; omega]
  have t := turned_f 4 64 x s (rotN 64 x ((64 - s) % 64)) 42 (by decide) (by decide) hs1 hx2 (rotN_lt 64 x _ (by omega) hx3) (dig4 64 x s hs1 hx3)
  rw [show 42 + 4 * 64 + 1 = 299 from rfl] at t
  rw [show (((64 : Nat) : Int)) = 64 from rfl] at t
  rw [t, Option.bind_some]
  have e : wideV 14 x y = (rot64 x (-((y : Int) % 64)), 0) := rfl
  rw [e, rot64_nat x ((64 - s) % 64) _ hx (by omega)]
theorem ref64_j (j : Int) (hj : 0 ≤ j ∧ j ≤ 14) (x y : Nat) (hx : x < 18446744073709551616) (hy : y < 18446744073709551616) (a b : Int) (a0 : 0 ≤ a) (b0 : 0 ≤ b) (ex : lowV a 64 = x) (ey : lowV b 64 = y) : avocetref02_Two.j0 300 a b (14 + j) 64 false = some ((wideV j x y).1, (wideV j x y).2, true) := by
  obtain rfl | rfl | rfl | rfl | rfl | rfl | rfl | rfl | rfl | rfl | rfl | rfl | rfl | rfl | rfl : j = 0 ∨ j = 1 ∨ j = 2 ∨ j = 3 ∨ j = 4 ∨ j = 5 ∨ j = 6 ∨ j = 7 ∨ j = 8 ∨ j = 9 ∨ j = 10 ∨ j = 11 ∨ j = 12 ∨ j = 13 ∨ j = 14 := by omega
  · exact r64_0 x y hx hy a b a0 b0 ex ey
  · exact r64_1 x y hx hy a b a0 b0 ex ey
  · exact r64_2 x y hx hy a b a0 b0 ex ey
  · exact r64_3 x y hx hy a b a0 b0 ex ey
  · exact r64_4 x y hx hy a b a0 b0 ex ey
  · exact r64_5 x y hx hy a b a0 b0 ex ey
  · exact r64_6 x y hx hy a b a0 b0 ex ey
  · exact r64_7 x y hx hy a b a0 b0 ex ey
  · exact r64_8 x y hx hy a b a0 b0 ex ey
  · exact r64_9 x y hx hy a b a0 b0 ex ey
  · exact r64_10 x y hx hy a b a0 b0 ex ey
  · exact r64_11 x y hx hy a b a0 b0 ex ey
  · exact r64_12 x y hx hy a b a0 b0 ex ey
  · exact r64_13 x y hx hy a b a0 b0 ex ey
  · exact r64_14 x y hx hy a b a0 b0 ex ey
theorem two_ref (op a b : Int) (a0 : 0 ≤ a) (a1 : a < 18446744073709551616) (b0 : 0 ≤ b) (b1 : b < 18446744073709551616) : avocetref02_Two.f 300 op a b = some (twoV op a b) := by
  have ka := kind_f 297 op
  rw [show 3 + 297 = 300 from rfl] at ka
  unfold avocetref02_Two.f
  rw [ka, Option.bind_some]
  have none_ : ∀ k w, avocetref02_Two.j0 300 a b k w true = some (0, 0, false) := fun k w => by
    show avocetref02_Two.j0 (299 + 1) a b k w true = _
    simp only [avocetref02_Two.j0]
    rw [if_pos trivial]
  have cmp : ∀ k w, (w = 32 ∨ w = 64) → 1 ≤ k → k ≤ 10 → lowV a w < half w + half w → lowV b w < half w + half w → 0 ≤ lowV a w → 0 ≤ lowV b w → avocetref02_Two.j0 300 a b k w false = some (b01 (cmpV (k - 1) (lowV a w) (lowV b w) (sg (half w) (lowV a w)) (sg (half w) (lowV b w))), 0, true) := fun k w hw k0 k1 x1 y1 x0 y0 => by
    show avocetref02_Two.j0 (299 + 1) a b k w false = _
    simp only [avocetref02_Two.j0]
    rw [if_neg (by decide), low_f a w a0, Option.bind_some, low_f b w b0, Option.bind_some, if_pos k1, compare_f k _ _ w hw ⟨k0, k1⟩ x0 x1 y0 y1, Option.bind_some, yes_f, Option.bind_some]
  have l32a : lowV a 32 = a % 4294967296 := rfl
  have l32b : lowV b 32 = b % 4294967296 := rfl
  have l64a : lowV a 64 = a := rfl
  have l64b : lowV b 64 = b := rfl
  have h32 : half 32 = 2147483648 := rfl
  have h64 : half 64 = 9223372036854775808 := rfl
  unfold twoV
  by_cases c1 : 70 ≤ op ∧ op ≤ 79
  · have k : kindV op = (op - 69, 32) := by unfold kindV; rw [if_pos (by omega)]
    rw [if_pos c1, k, if_neg (show ¬ (op - 69 < 1) by omega), if_neg (show ¬ (op - 69 > 10) by omega)]
    have c := cmp (op - 69) 32 (Or.inl rfl) (by omega) (by omega) (by rw [l32a, h32]; omega) (by rw [l32b, h32]; omega) (by rw [l32a]; omega) (by rw [l32b]; omega)
    rw [l32a, l32b, h32, ← (sg32 (a % 4294967296) (by omega) (by omega)).2.2, ← (sg32 (b % 4294967296) (by omega) (by omega)).2.2, show op - 69 - 1 = op - 70 by omega] at c
    exact c
  by_cases c2 : 81 ≤ op ∧ op ≤ 90
  · have k : kindV op = (op - 80, 64) := by unfold kindV; rw [if_neg (by omega), if_pos (by omega)]
    rw [if_neg c1, if_pos c2, k, if_neg (show ¬ (op - 80 < 1) by omega), if_neg (show ¬ (op - 80 > 10) by omega)]
    have c := cmp (op - 80) 64 (Or.inr rfl) (by omega) (by omega) (by rw [l64a, h64]; omega) (by rw [l64b, h64]; omega) (by rw [l64a]; omega) (by rw [l64b]; omega)
    rw [l64a, l64b, h64, ← sg64 a a0 a1, ← sg64 b b0 b1, show op - 80 - 1 = op - 81 by omega] at c
    exact c
  by_cases c3 : 106 ≤ op ∧ op ≤ 120
  · have k : kindV op = (op - 92, 32) := by unfold kindV; rw [if_neg (by omega), if_neg (by omega), if_pos (by omega)]
    rw [if_neg c1, if_neg c2, if_pos c3, k, if_neg (show ¬ (op - 92 < 1) by omega), if_pos (show op - 92 > 10 by omega), decide_eq_false (show ¬ (op - 92 < 14) by omega)]
    have c := ref32_j (op - 106) (by omega) (a % 4294967296).toNat (b % 4294967296).toNat (by omega) (by omega) a b a0 b0 (by rw [l32a]; omega) (by rw [l32b]; omega)
    rw [Int.toNat_of_nonneg (by omega), Int.toNat_of_nonneg (by omega), show 14 + (op - 106) = op - 92 by omega] at c
    exact c
  by_cases c4 : 124 ≤ op ∧ op ≤ 138
  · have k : kindV op = (op - 110, 64) := by unfold kindV; rw [if_neg (by omega), if_neg (by omega), if_neg (by omega), if_pos (by omega)]
    rw [if_neg c1, if_neg c2, if_neg c3, if_pos c4, k, if_neg (show ¬ (op - 110 < 1) by omega), if_pos (show op - 110 > 10 by omega), decide_eq_false (show ¬ (op - 110 < 14) by omega)]
    have c := ref64_j (op - 124) (by omega) a.toNat b.toNat (by omega) (by omega) a b a0 b0 (by rw [l64a]; omega) (by rw [l64b]; omega)
    rw [Int.toNat_of_nonneg a0, Int.toNat_of_nonneg b0, show 14 + (op - 124) = op - 110 by omega] at c
    exact c
  rw [if_neg c1, if_neg c2, if_neg c3, if_neg c4]
  by_cases d1 : (kindV op).1 < 1
  · rw [if_pos d1]
    exact none_ _ _
  · have d2 : 10 < (kindV op).1 ∧ (kindV op).1 < 14 := by
      revert d1
      unfold kindV
      split
      · dsimp only; omega
      · split
        · dsimp only; omega
        · split
          · dsimp only; omega
          · split
            · dsimp only; omega
            · dsimp only; omega
    rw [if_neg d1, if_pos d2.1, decide_eq_true d2.2]
    exact none_ _ _
theorem one_ref (op a : Int) (a0 : 0 ≤ a) (a1 : a < 18446744073709551616) : avocetref02_One.f 300 op a = some (oneV op a) := by
  have ka := kind_f 297 op
  rw [show 3 + 297 = 300 from rfl] at ka
  have l32 : lowV a 32 = a % 4294967296 := rfl
  have l64 : lowV a 64 = a := rfl
  unfold avocetref02_One.f
  rw [ka, Option.bind_some]
  have J : ∀ k w c, avocetref02_One.j0 300 op a k w c = avocetref02_One.j0 (299 + 1) op a k w c := fun _ _ _ => rfl
  by_cases c1 : op = 167
  · subst c1
    rw [if_pos rfl, J]
    simp only [avocetref02_One.j0]
    rw [if_pos trivial, low_f a 32 a0]
    rfl
  rw [if_neg c1]
  by_cases c2 : op = 173
  · subst c2
    rw [J]
    simp only [avocetref02_One.j0]
    rw [if_pos (by decide), low_f a 32 a0]
    rfl
  rw [beq_eq_false_iff_ne.mpr c2, J]
  simp only [avocetref02_One.j0]
  rw [if_neg (by decide)]
  by_cases c3 : op = 172
  · subst c3
    rw [if_pos rfl, low_f a 32 a0, Option.bind_some, signed_f _ 32 (Or.inl rfl) (by rw [l32]; omega) (by rw [l32]; show a % 4294967296 < 2147483648 + 2147483648; omega), Option.bind_some, l32]
    have s := (sg32 (a % 4294967296) (by omega) (by omega)).2.2
    have e : oneV 172 a = (IntKind.u64.wrap (wrap64 (wrap32 (a % 4294967296))), true) := rfl
    rw [e, s]
    rfl
  rw [if_neg c3]
  by_cases c4 : op = 69
  · subst c4
    have k : kindV 69 = (0, 32) := rfl
    rw [k, if_pos rfl, low_f a 32 a0, Option.bind_some, yes_f, Option.bind_some]
    rfl
  by_cases c5 : op = 80
  · subst c5
    have k : kindV 80 = (0, 64) := rfl
    rw [k, if_pos rfl, low_f a 64 a0, Option.bind_some, yes_f, Option.bind_some]
    rfl
  by_cases c6 : 103 ≤ op ∧ op ≤ 105
  · have k : kindV op = (op - 92, 32) := by unfold kindV; rw [if_neg (by omega), if_neg (by omega), if_pos (by omega)]
    rw [k, if_neg (show ¬ (op - 92 = 0) by omega), if_pos (show op - 92 ≥ 11 by omega), decide_eq_true (show op - 92 ≤ 13 by omega)]
    show avocetref02_One.j1 (298 + 1) a (op - 92) 32 true = _
    simp only [avocetref02_One.j1]
    have t := counted_f (op - 103) (a % 4294967296).toNat 32 201 (by simp only [Nat.reducePow]; omega) (by omega) (by decide) (by omega)
    rw [show 201 + 3 * 32 + 1 = 298 from rfl, Int.toNat_of_nonneg (by omega), show (((32 : Nat)) : Int) = 32 from rfl] at t
    rw [if_pos trivial, low_f a 32 a0, Option.bind_some, l32, show wrap64 (op - 92 - 11) = op - 103 by unfold wrap64; omega, t, Option.bind_some]
    obtain rfl | rfl | rfl : op = 103 ∨ op = 104 ∨ op = 105 := by omega
    all_goals rfl
  by_cases c7 : 121 ≤ op ∧ op ≤ 123
  · have k : kindV op = (op - 110, 64) := by unfold kindV; rw [if_neg (by omega), if_neg (by omega), if_neg (by omega), if_pos (by omega)]
    rw [k, if_neg (show ¬ (op - 110 = 0) by omega), if_pos (show op - 110 ≥ 11 by omega), decide_eq_true (show op - 110 ≤ 13 by omega)]
    show avocetref02_One.j1 (298 + 1) a (op - 110) 64 true = _
    simp only [avocetref02_One.j1]
    have t := counted_f (op - 121) a.toNat 64 105 (by simp only [Nat.reducePow]; omega) (by omega) (by decide) (by omega)
    rw [show 105 + 3 * 64 + 1 = 298 from rfl, Int.toNat_of_nonneg a0, show (((64 : Nat)) : Int) = 64 from rfl] at t
    rw [if_pos trivial, low_f a 64 a0, Option.bind_some, l64, show wrap64 (op - 110 - 11) = op - 121 by unfold wrap64; omega, t, Option.bind_some]
    obtain rfl | rfl | rfl : op = 121 ∨ op = 122 ∨ op = 123 := by omega
    all_goals rfl
  have d : (kindV op).1 ≠ 0 ∧ ((kindV op).1 < 11 ∨ 13 < (kindV op).1) := by
    unfold kindV
    split
    · dsimp only; omega
    · split
      · dsimp only; omega
      · split
        · dsimp only; omega
        · split
          · dsimp only; omega
          · dsimp only; omega
  have no : oneV op a = (0, false) := by
    unfold oneV
    rw [if_neg (by omega), if_neg (by omega), if_neg (by omega), if_neg (by omega), if_neg (by omega), if_neg (by omega), if_neg (by omega), if_neg (by omega), if_neg (by omega), if_neg (by omega)]
  have J1 : ∀ k w, avocetref02_One.j1 (298 + 1) a k w false = some (0, false) := fun k w => by
    simp only [avocetref02_One.j1]
    rw [if_neg (by decide)]
  rw [no, if_neg d.1]
  by_cases e : (kindV op).1 ≥ 11
  · rw [if_pos e, decide_eq_false (by omega)]
    exact J1 _ _
  · rw [if_neg e]
    exact J1 _ _
theorem IntsDo : avocetlaw02_IntsDo.Pure := by
  intro op a b hop ha hb
  have ⟨a0, a1⟩ := LebM.wf_u64 ha
  have ⟨b0, b1⟩ := LebM.wf_u64 hb
  refine ⟨300, ?_⟩
  unfold avocetlaw02_IntsDo.f
  rw [awake_yes 299, Option.bind_some, one_f 299 op a a0 a1, Option.bind_some, one_ref op a a0 a1, Option.bind_some, two_f op a b a0 a1 b0 b1, Option.bind_some, two_ref op a b a0 a1 b0 b1, Option.bind_some]
  simp
end Go.Proofs.YtjonlcnmpejamaaDoor.Pure
