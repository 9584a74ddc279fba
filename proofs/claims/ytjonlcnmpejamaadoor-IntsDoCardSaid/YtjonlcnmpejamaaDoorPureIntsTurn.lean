/- Turned left and right again a number is itself. -/
import Derived.Test.YtjonlcnmpejamaaDoorG7
import Derived.Test.YtjonlcnmpejamaaDoorIntsB
namespace Go.Proofs.YtjonlcnmpejamaaDoor.Pure
open Go.RowKit Go.Proofs.YtjonlcnmpejamaaDoor.G Go.Proofs.YtjonlcnmpejamaaDoorW.PrintWords Go.Proofs.YtjonlcnmpejamaaDoorW.PrintLast
/-- x of w digits, turned left by s. -/
def rotN (w x s : Nat) : Nat := 2 ^ s * (x % 2 ^ (w - s)) + x / 2 ^ (w - s)
theorem pow_split (w s : Nat) (h : s ≤ w) : 2 ^ w = 2 ^ s * 2 ^ (w - s) := by rw [← Nat.pow_add]; congr 1; omega
theorem hi_lt (w x s : Nat) (h : s ≤ w) (hx : x < 2 ^ w) : x / 2 ^ (w - s) < 2 ^ s := by
  rw [Nat.div_lt_iff_lt_mul (Nat.two_pow_pos _), ← pow_split w s h]
  exact hx
theorem rotN_or (w x s : Nat) (h : s ≤ w) (hx : x < 2 ^ w) : x * 2 ^ s % 2 ^ w ||| x / 2 ^ (w - s) = rotN w x s := by
  have e : x * 2 ^ s % 2 ^ w = 2 ^ s * (x % 2 ^ (w - s)) := by
    rw [pow_split w s h, Nat.mul_comm x, Nat.mul_mod_mul_left]
  unfold rotN
  rw [e, Nat.two_pow_add_eq_or_of_lt (hi_lt w x s h hx)]
theorem rotN_lt (w x s : Nat) (h : s ≤ w) (hx : x < 2 ^ w) : rotN w x s < 2 ^ w := by
  unfold rotN
  have h1 := hi_lt w x s h hx
  have h2 : x % 2 ^ (w - s) + 1 ≤ 2 ^ (w - s) := Nat.mod_lt _ (Nat.two_pow_pos _)
  have h3 := Nat.mul_le_mul_left (2 ^ s) h2
  rw [← pow_split w s h, Nat.mul_add] at h3
  omega
theorem rotN_zero (w x : Nat) (hx : x < 2 ^ w) : rotN w x 0 = x := by
  unfold rotN
  rw [Nat.sub_zero, Nat.mod_eq_of_lt hx, Nat.div_eq_of_lt hx]
  omega
theorem rotN_back (w x s : Nat) (h : s ≤ w) (hx : x < 2 ^ w) : rotN w (rotN w x s) (w - s) = x := by
  have h1 := hi_lt w x s h hx
  have e1 : rotN w x s % 2 ^ s = x / 2 ^ (w - s) := by
    unfold rotN
    rw [Nat.mul_add_mod, Nat.mod_eq_of_lt h1]
  have e2 : rotN w x s / 2 ^ s = x % 2 ^ (w - s) := by
    unfold rotN
    rw [Nat.mul_add_div (Nat.two_pow_pos s), Nat.div_eq_of_lt h1, Nat.add_zero]
  rw [show rotN w (rotN w x s) (w - s) = 2 ^ (w - s) * (rotN w x s % 2 ^ (w - (w - s))) + rotN w x s / 2 ^ (w - (w - s)) from rfl, show w - (w - s) = s by omega, e1, e2]
  exact Nat.div_add_mod x (2 ^ (w - s))
theorem ones_join (s u v : Nat) (hs : s ≤ 64) (hv : v < 2 ^ s) (hu : u < 2 ^ (64 - s)) : Lib.onesCount (2 ^ s * u + v) = Lib.onesCount u + Lib.onesCount v := by
  have a : Lib.onesCount v = Lib.popAux s v := by
    have := popAux_more s (64 - s) v hv
    rwa [show s + (64 - s) = 64 by omega] at this
  have b : Lib.onesCount u = Lib.popAux (64 - s) u := by
    have := popAux_more (64 - s) s u hu
    rwa [show 64 - s + s = 64 by omega] at this
  have c := popAux_split s (64 - s) (2 ^ s * u + v)
  rw [show s + (64 - s) = 64 by omega, Nat.mul_add_mod, Nat.mod_eq_of_lt hv, Nat.mul_add_div (Nat.two_pow_pos s), Nat.div_eq_of_lt hv, Nat.add_zero, ← a, ← b] at c
  exact c.trans (Nat.add_comm _ _)
theorem rotN_ones (w x s : Nat) (hw : w ≤ 64) (h : s ≤ w) (hx : x < 2 ^ w) : Lib.onesCount (rotN w x s) = Lib.onesCount x := by
  have h1 := hi_lt w x s h hx
  have h2 : x % 2 ^ (w - s) < 2 ^ (w - s) := Nat.mod_lt _ (Nat.two_pow_pos _)
  have m : ∀ a b, a ≤ b → 2 ^ a ≤ 2 ^ b := fun a b h => Nat.pow_le_pow_right (by decide) h
  have e := Nat.div_add_mod x (2 ^ (w - s))
  have e1 := ones_join (w - s) (x / 2 ^ (w - s)) (x % 2 ^ (w - s)) (by omega) h2 (Nat.lt_of_lt_of_le h1 (m _ _ (by omega)))
  rw [e] at e1
  have e2 := ones_join s (x % 2 ^ (w - s)) (x / 2 ^ (w - s)) (by omega) h1 (Nat.lt_of_lt_of_le h2 (m _ _ (by omega)))
  unfold rotN
  rw [e2, e1, Nat.add_comm]
theorem turn_step (K : Nat) (x n left pop w l c sl sr o : Int) {t1 t2 t5 t6 t7 : Int × Bool} {b1 b2 : Bool} (hw : w ≠ 0) (L : ints_Two.f left x n = some (l, t1)) (R : ints_Two.f (wrap64 (left + 1)) l n = some (x, t2)) (C : ints_One.f K pop x = some (c, b1)) (C' : ints_One.f K pop l = some (c, b2))
    (S : ints_Two.f (wrap64 (left - 3)) x n = some (sl, t5)) (T : ints_Two.f (wrap64 (left - 1)) x (IntKind.u64.wrap (w - Int.tmod n w)) = some (sr, t6)) (O : ints_Two.f (wrap64 (left - 5)) sl sr = some (o, t7)) (h : Int.tmod n w = 0 ∨ o = l) :
    avocetlaw02_IntsTurn.j1 (K + 1) n true left pop w x = some true := by
  simp only [avocetlaw02_IntsTurn.j1]
  rw [L, Option.bind_some, R, Option.bind_some, C, Option.bind_some, C', Option.bind_some, S, Option.bind_some, if_neg hw, T, Option.bind_some, O, Option.bind_some, if_pos trivial]
  simp only []
  rw [if_pos trivial, if_pos trivial]
  rcases h with h | h
  · rw [if_pos h]
  · rw [h, beq_self_eq_true]
    split <;> rfl
theorem cast_shl (x s M : Nat) : (x : Int) * 2 ^ s % (M : Int) = ((x * 2 ^ s % M : Nat) : Int) := by
  rw [Int.natCast_emod, Int.natCast_mul, Int.natCast_pow]
  rfl
theorem cast_shr (x s : Nat) : (x : Int) / 2 ^ s = ((x / 2 ^ s : Nat) : Int) := by
  rw [Int.natCast_ediv, Int.natCast_pow]
  rfl
theorem rot32_nat (x s : Nat) (k : Int) (hx : x < 4294967296) (hk : k % 32 = s) : rot32 x k = (rotN 32 x s : Nat) := by
  have hs : s < 32 := by omega
  unfold rot32
  rw [hk, Int.toNat_natCast, show ((32 : Int) - (s : Int)).toNat = 32 - s by omega]
  have e := cast_shl x s 4294967296
  rw [show ((4294967296 : Nat) : Int) = 4294967296 from rfl] at e
  have hl : x / 2 ^ (32 - s) < 4294967296 := Nat.lt_of_le_of_lt (Nat.div_le_self _ _) hx
  rw [e, cast_shr, or_u32_nat _ _ (Nat.mod_lt _ (by decide)) hl]
  exact congrArg Int.ofNat (rotN_or 32 x s (by omega) hx)
theorem rot64_nat (x s : Nat) (k : Int) (hx : x < 18446744073709551616) (hk : k % 64 = s) : rot64 x k = (rotN 64 x s : Nat) := by
  have hs : s < 64 := by omega
  unfold rot64
  rw [hk, Int.toNat_natCast, show ((64 : Int) - (s : Int)).toNat = 64 - s by omega, wrap_u64_]
  have e := cast_shl x s 18446744073709551616
  rw [show ((18446744073709551616 : Nat) : Int) = 18446744073709551616 from rfl] at e
  have hl : x / 2 ^ (64 - s) < 18446744073709551616 := Nat.lt_of_le_of_lt (Nat.div_le_self _ _) hx
  rw [e, cast_shr, or_u64_nat _ _ (Nat.mod_lt _ (by decide)) hl]
  exact congrArg Int.ofNat (rotN_or 64 x s (by omega) hx)
theorem wnat (n : Nat) (h : n < 18446744073709551616) : IntKind.u64.wrap (n : Int) = n := by rw [wrap_u64_]; omega
theorem turn_narrow (x : Nat) (n : Int) (hx : x < 4294967296) (n0 : 0 ≤ n) (n1 : n < 18446744073709551616) : avocetlaw02_IntsTurn.j1 2 n true 119 105 32 x = some true := by
  obtain ⟨s, hs⟩ : ∃ s : Nat, n % 32 = s := ⟨(n % 32).toNat, by omega⟩
  have sl : s < 32 := by omega
  have n3 : n % 4294967296 % 32 = s := by omega
  have ex : (x : Int) % 4294967296 = x := by omega
  have hl := rotN_lt 32 x s (by omega) hx
  rw [show (2 : Nat) ^ 32 = 4294967296 from rfl] at hl
  obtain ⟨l, el⟩ : ∃ l, rotN 32 x s = l := ⟨_, rfl⟩
  rw [el] at hl
  have exl : (l : Int) % 4294967296 = l := by omega
  have m : Int.tmod n 32 = s := by rw [Int.tmod_eq_emod_of_nonneg n0, hs]
  have L : ints_Two.f 119 x n = some ((l : Int), 0, true) := by
    rw [two_f 119 x n (by omega) (by omega) n0 n1]
    have e : twoV 119 x n = (IntKind.u64.wrap (rot32 ((x : Int) % 4294967296) (n % 4294967296 % 32)), 0, true) := rfl
    rw [e, ex, n3, rot32_nat x s s hx (by omega), el, wnat l (by omega)]
  have R : ints_Two.f (wrap64 (119 + 1)) l n = some ((x : Int), 0, true) := by
    rw [show wrap64 (119 + 1) = 120 by unfold wrap64; omega, two_f 120 l n (by omega) (by omega) n0 n1]
    have e : twoV 120 l n = (IntKind.u64.wrap (rot32 ((l : Int) % 4294967296) (-(n % 4294967296 % 32))), 0, true) := rfl
    rw [e, exl, n3]
    have b : rot32 l (-(s : Int)) = (x : Int) := by
      by_cases z : s = 0
      · rw [rot32_nat l 0 (-(s : Int)) hl (by omega), rotN_zero 32 l hl, ← el, z, rotN_zero 32 x hx]
      · rw [rot32_nat l (32 - s) (-(s : Int)) hl (by omega), ← el, rotN_back 32 x s (by omega) hx]
    rw [b, wnat x (by omega)]
  have S : ints_Two.f (wrap64 (119 - 3)) x n = some (((x * 2 ^ s % 4294967296 : Nat) : Int), 0, true) := by
    rw [show wrap64 (119 - 3) = 116 by unfold wrap64; omega, two_f 116 x n (by omega) (by omega) n0 n1]
    have e : twoV 116 x n = ((x : Int) % 4294967296 * 2 ^ (n % 4294967296 % 32).toNat % 4294967296, 0, true) := rfl
    rw [e, ex, n3, Int.toNat_natCast]
    exact congrArg (fun z : Int => some (z, (0 : Int), true)) (cast_shl x s 4294967296)
  have o1 : ints_One.f 1 105 x = some (((Lib.onesCount x : Nat) : Int), true) := by
    rw [one_f 0 105 x (by omega) (by omega)]
    have e : oneV 105 x = (((Lib.onesCount ((x : Int) % 4294967296).toNat : Nat) : Int), true) := rfl
    rw [e, ex, Int.toNat_natCast]
  have o2 : ints_One.f 1 105 l = some (((Lib.onesCount x : Nat) : Int), true) := by
    rw [one_f 0 105 l (by omega) (by omega)]
    have e : oneV 105 l = (((Lib.onesCount ((l : Int) % 4294967296).toNat : Nat) : Int), true) := rfl
    rw [e, exl, Int.toNat_natCast, ← el, rotN_ones 32 x s (by decide) (by omega) hx]
  have u0 : IntKind.u64.wrap (32 - Int.tmod n 32) = ((32 - s : Nat) : Int) := by rw [m, wrap_u64_]; omega
  have xs : x * 2 ^ s % 4294967296 < 4294967296 := Nat.mod_lt _ (by decide)
  obtain ⟨v, hv, hv2⟩ : ∃ v : Nat, ints_Two.f (wrap64 (119 - 1)) (x : Int) (IntKind.u64.wrap (32 - Int.tmod n 32)) = some ((v : Int), 0, true) ∧ (v < 4294967296 ∧ (s ≠ 0 → v = x / 2 ^ (32 - s))) := by
    rw [u0, show wrap64 (119 - 1) = 118 by unfold wrap64; omega, two_f 118 x _ (by omega) (by omega) (by omega) (by omega)]
    have e : ∀ q : Nat, twoV 118 x q = (IntKind.u64.wrap ((x : Int) % 4294967296 / 2 ^ ((q : Int) % 4294967296 % 32).toNat), 0, true) := fun _ => rfl
    have hq : ((x / 2 ^ (((32 - s : Nat) : Int) % 4294967296 % 32).toNat : Nat)) < 4294967296 := Nat.lt_of_le_of_lt (Nat.div_le_self _ _) hx
    refine ⟨x / 2 ^ (((32 - s : Nat) : Int) % 4294967296 % 32).toNat, ?_, hq, fun z => ?_⟩
    · rw [e, ex, cast_shr, wnat _ (by omega)]
    · rw [show (((32 - s : Nat) : Int) % 4294967296 % 32).toNat = 32 - s by omega]
  have O : ints_Two.f (wrap64 (119 - 5)) ((x * 2 ^ s % 4294967296 : Nat) : Int) (v : Int) = some (((x * 2 ^ s % 4294967296 ||| v : Nat) : Int), 0, true) := by
    obtain ⟨y, hy⟩ : ∃ y, x * 2 ^ s % 4294967296 = y := ⟨_, rfl⟩
    rw [hy] at xs ⊢
    rw [show wrap64 (119 - 5) = 114 by unfold wrap64; omega, two_f 114 y v (by omega) (by omega) (by omega) (by omega)]
    have e : twoV 114 y v = (bits .and .u64 (bits .or .u64 ((y : Int) % 4294967296) ((v : Int) % 4294967296)) 4294967295, 0, true) := rfl
    have hyv : y ||| v < 2 ^ 32 := Nat.or_lt_two_pow xs hv2.1
    rw [show (2 : Nat) ^ 32 = 4294967296 from rfl] at hyv
    rw [e, show (y : Int) % 4294967296 = y by omega, show (v : Int) % 4294967296 = v by omega, or_u64_nat y v (by omega) (by omega), mask_ _ (by omega) (by omega), show ((y ||| v : Nat) : Int) % 4294967296 = ((y ||| v : Nat) : Int) by omega]
  refine turn_step 1 x n 119 105 32 l _ _ _ _ (by decide) L R o1 o2 S hv O ?_
  by_cases z : s = 0
  · left; rw [m, z]; rfl
  · right
    rw [hv2.2 z, ← el, ← rotN_or 32 x s (by omega) hx]
theorem turn_wide (x : Nat) (n : Int) (hx : x < 18446744073709551616) (n0 : 0 ≤ n) (n1 : n < 18446744073709551616) : avocetlaw02_IntsTurn.j1 2 n true 137 123 64 x = some true := by
  obtain ⟨s, hs⟩ : ∃ s : Nat, n % 64 = s := ⟨(n % 64).toNat, by omega⟩
  have sl : s < 64 := by omega
  have hl := rotN_lt 64 x s (by omega) hx
  rw [show (2 : Nat) ^ 64 = 18446744073709551616 from rfl] at hl
  obtain ⟨l, el⟩ : ∃ l, rotN 64 x s = l := ⟨_, rfl⟩
  rw [el] at hl
  have m : Int.tmod n 64 = s := by rw [Int.tmod_eq_emod_of_nonneg n0, hs]
  have L : ints_Two.f 137 x n = some ((l : Int), 0, true) := by
    rw [two_f 137 x n (by omega) (by omega) n0 n1]
    have e : twoV 137 x n = (rot64 (x : Int) (n % 64), 0, true) := rfl
    rw [e, hs, rot64_nat x s s hx (by omega), el]
  have R : ints_Two.f (wrap64 (137 + 1)) l n = some ((x : Int), 0, true) := by
    rw [show wrap64 (137 + 1) = 138 by unfold wrap64; omega, two_f 138 l n (by omega) (by omega) n0 n1]
    have e : twoV 138 l n = (rot64 (l : Int) (-(n % 64)), 0, true) := rfl
    rw [e, hs]
    have b : rot64 l (-(s : Int)) = (x : Int) := by
      by_cases z : s = 0
      · rw [rot64_nat l 0 (-(s : Int)) hl (by omega), rotN_zero 64 l hl, ← el, z, rotN_zero 64 x hx]
      · rw [rot64_nat l (64 - s) (-(s : Int)) hl (by omega), ← el, rotN_back 64 x s (by omega) hx]
    rw [b]
  have S : ints_Two.f (wrap64 (137 - 3)) x n = some (((x * 2 ^ s % 18446744073709551616 : Nat) : Int), 0, true) := by
    rw [show wrap64 (137 - 3) = 134 by unfold wrap64; omega, two_f 134 x n (by omega) (by omega) n0 n1]
    have e : twoV 134 x n = (IntKind.u64.wrap ((x : Int) * 2 ^ (n % 64).toNat), 0, true) := rfl
    rw [e, hs, Int.toNat_natCast, wrap_u64_]
    exact congrArg (fun z : Int => some (z, (0 : Int), true)) (cast_shl x s 18446744073709551616)
  have o1 : ints_One.f 1 123 x = some (((Lib.onesCount x : Nat) : Int), true) := by
    rw [one_f 0 123 x (by omega) (by omega)]
    have e : oneV 123 x = (((Lib.onesCount (x : Int).toNat : Nat) : Int), true) := rfl
    rw [e, Int.toNat_natCast]
  have o2 : ints_One.f 1 123 l = some (((Lib.onesCount x : Nat) : Int), true) := by
    rw [one_f 0 123 l (by omega) (by omega)]
    have e : oneV 123 l = (((Lib.onesCount (l : Int).toNat : Nat) : Int), true) := rfl
    rw [e, Int.toNat_natCast, ← el, rotN_ones 64 x s (by decide) (by omega) hx]
  have u0 : IntKind.u64.wrap (64 - Int.tmod n 64) = ((64 - s : Nat) : Int) := by rw [m, wrap_u64_]; omega
  have xs : x * 2 ^ s % 18446744073709551616 < 18446744073709551616 := Nat.mod_lt _ (by decide)
  obtain ⟨v, hv, hv2⟩ : ∃ v : Nat, ints_Two.f (wrap64 (137 - 1)) (x : Int) (IntKind.u64.wrap (64 - Int.tmod n 64)) = some ((v : Int), 0, true) ∧ (v < 18446744073709551616 ∧ (s ≠ 0 → v = x / 2 ^ (64 - s))) := by
    rw [u0, show wrap64 (137 - 1) = 136 by unfold wrap64; omega, two_f 136 x _ (by omega) (by omega) (by omega) (by omega)]
    have e : ∀ q : Nat, twoV 136 x q = ((x : Int) / 2 ^ ((q : Int) % 64).toNat, 0, true) := fun _ => rfl
    have hq : ((x / 2 ^ (((64 - s : Nat) : Int) % 64).toNat : Nat)) < 18446744073709551616 := Nat.lt_of_le_of_lt (Nat.div_le_self _ _) hx
    refine ⟨x / 2 ^ (((64 - s : Nat) : Int) % 64).toNat, ?_, hq, fun z => ?_⟩
    · rw [e, cast_shr]
    · rw [show (((64 - s : Nat) : Int) % 64).toNat = 64 - s by omega]
  have O : ints_Two.f (wrap64 (137 - 5)) ((x * 2 ^ s % 18446744073709551616 : Nat) : Int) (v : Int) = some (((x * 2 ^ s % 18446744073709551616 ||| v : Nat) : Int), 0, true) := by
    obtain ⟨y, hy⟩ : ∃ y, x * 2 ^ s % 18446744073709551616 = y := ⟨_, rfl⟩
    rw [hy] at xs ⊢
    rw [show wrap64 (137 - 5) = 132 by unfold wrap64; omega, two_f 132 y v (by omega) (by omega) (by omega) (by omega)]
    have e : twoV 132 y v = (bits .or .u64 (y : Int) (v : Int), 0, true) := rfl
    rw [e, or_u64_nat y v (by omega) (by omega)]
  refine turn_step 1 x n 137 123 64 l _ _ _ _ (by decide) L R o1 o2 S hv O ?_
  by_cases z : s = 0
  · left; rw [m, z]; rfl
  · right
    rw [hv2.2 z, ← el, ← rotN_or 64 x s (by omega) hx]
theorem IntsTurn : avocetlaw02_IntsTurn.Pure := by
  intro a n c ha hn
  have ⟨a0, a1⟩ := LebM.wf_u64 ha
  have ⟨n0, n1⟩ := LebM.wf_u64 hn
  refine ⟨3, ?_⟩
  unfold avocetlaw02_IntsTurn.f
  rw [awake_yes 2, Option.bind_some]
  obtain ⟨K, hK⟩ : ∃ K, 2 = K := ⟨_, rfl⟩
  cases c
  · rw [if_neg (by decide)]
    have h := turn_narrow (a % 4294967296).toNat n (by omega) n0 n1
    show avocetlaw02_IntsTurn.j0 (2 + 1) a n false true 119 105 32 = _
    rw [hK] at h ⊢
    simp only [avocetlaw02_IntsTurn.j0]
    rw [if_neg (by decide), Int.tmod_eq_emod_of_nonneg a0]
    rw [Int.toNat_of_nonneg (by omega)] at h
    exact h
  · rw [if_pos rfl]
    have h := turn_wide a.toNat n (by omega) n0 n1
    show avocetlaw02_IntsTurn.j0 (2 + 1) a n true true 137 123 64 = _
    rw [hK] at h ⊢
    simp only [avocetlaw02_IntsTurn.j0]
    rw [Int.toNat_of_nonneg a0] at h
    exact h
end Go.Proofs.YtjonlcnmpejamaaDoor.Pure
