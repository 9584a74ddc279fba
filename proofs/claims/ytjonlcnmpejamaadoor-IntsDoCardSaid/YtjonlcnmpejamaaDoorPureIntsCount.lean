/- A number's zeros at the top, at the bottom, and its ones. -/
import Derived.Test.YtjonlcnmpejamaaDoorG8
import Derived.Test.YtjonlcnmpejamaaDoorIntsB
namespace Go.Proofs.YtjonlcnmpejamaaDoor.Pure
open Go.RowKit Go.Proofs.YtjonlcnmpejamaaDoor.G Go.Proofs.YtjonlcnmpejamaaDoorW.PrintWords Go.Proofs.YtjonlcnmpejamaaDoorW.PrintLast
theorem bits_le : ∀ f x, Lib.popAux f x + (if x = 0 then 0 else Lib.ctzFrom f x) ≤ Lib.bitLenAux f x
  | 0, x => by simp [Lib.popAux, Lib.ctzFrom, Lib.bitLenAux]
  | f + 1, x => by
    have ih := bits_le f (x / 2)
    unfold Lib.popAux Lib.ctzFrom Lib.bitLenAux
    by_cases h : x = 0
    · subst h
      simp only [Nat.zero_mod, Nat.zero_div, if_true] at ih ⊢
      have : Lib.bitLenAux f 0 = 0 := by cases f <;> simp [Lib.bitLenAux]
      omega
    · rw [if_neg h, if_neg h]
      by_cases h1 : x % 2 = 1
      · rw [if_pos h1]
        split at ih <;> omega
      · rw [if_neg h1]
        rw [if_neg (by omega)] at ih
        omega
theorem ctz_mono : ∀ f x, Lib.ctzFrom f x ≤ Lib.ctzFrom (f + 1) x
  | 0, x => Nat.zero_le _
  | f + 1, x => by
    have ih := ctz_mono f (x / 2)
    unfold Lib.ctzFrom
    split
    · exact Nat.le_refl _
    · omega
theorem ctz_mono' (f x : Nat) : ∀ g, Lib.ctzFrom f x ≤ Lib.ctzFrom (f + g) x
  | 0 => Nat.le_refl _
  | g + 1 => Nat.le_trans (ctz_mono' f x g) (ctz_mono (f + g) x)
theorem pop_zero : ∀ f x, x < 2 ^ f → Lib.popAux f x = 0 → x = 0
  | 0, x, h, _ => by simpa using h
  | f + 1, x, h, e => by
    unfold Lib.popAux at e
    have := pop_zero f (x / 2) (by rw [Nat.pow_succ] at h; omega) (by omega)
    omega
theorem count_all (w x : Nat) (hw : w = 32 ∨ w = 64) (hx : x < 2 ^ w) (b c o : Nat) (hb : Lib.bitLen x = b) (hc : Lib.ctz w x = c) (ho : Lib.onesCount x = o) : (o = 0 ∧ b = 0 ∧ c = w) ∨ (0 < o ∧ c + o ≤ b) := by
  have h64 : x < 2 ^ 64 := by
    rcases hw with h | h <;> subst h <;> simp only [Nat.reducePow] at hx ⊢ <;> omega
  by_cases h : o = 0
  · left
    have := pop_zero 64 x h64 (ho.trans h)
    subst this
    refine ⟨h, by rw [← hb]; decide, by rw [← hc]; simp [Lib.ctz]⟩
  · right
    refine ⟨by omega, ?_⟩
    have hx0 : x ≠ 0 := by
      rintro rfl
      apply h
      rw [← ho]; decide
    have e := bits_le 64 x
    rw [if_neg hx0] at e
    unfold Lib.ctz at hc
    rw [if_neg hx0] at hc
    have m : Lib.ctzFrom w x ≤ Lib.ctzFrom 64 x := by
      rcases hw with h | h <;> subst h
      · exact ctz_mono' 32 x 32
      · exact Nat.le_refl _
    unfold Lib.bitLen at hb
    unfold Lib.onesCount at ho
    omega
theorem pow_fin : ∀ k : Fin 64, Lib.bitLen (2 ^ k.val) = k.val + 1 ∧ Lib.ctz 64 (2 ^ k.val) = k.val ∧ Lib.onesCount (2 ^ k.val) = 1 := by decide +kernel
theorem pow_fin32 : ∀ k : Fin 32, Lib.ctz 32 (2 ^ k.val) = k.val ∧ 2 ^ k.val < 4294967296 := by decide +kernel
theorem pow_fin64 : ∀ k : Fin 64, 2 ^ k.val < 18446744073709551616 := by decide +kernel
theorem count_step (K : Nat) (x0 x1 clz w shl kk one p q o : Int) {t : Int × Bool} {b1 b2 b3 b4 b5 b6 b7 b8 : Bool} (hw : w = 32 ∨ w = 64) (hk : Int.tmod x1 w = kk) (k0 : 0 ≤ kk) (k1 : kk < w) (h1 : ints_Two.f shl 1 kk = some (one, t))
    (c1 : ints_One.f K clz one = some (w - 1 - kk, b1)) (c2 : ints_One.f K (wrap64 (clz + 1)) one = some (kk, b2)) (c3 : ints_One.f K (wrap64 (clz + 2)) one = some (1, b3))
    (d1 : ints_One.f K clz x0 = some (p, b4)) (d2 : ints_One.f K (wrap64 (clz + 1)) x0 = some (q, b5)) (d3 : ints_One.f K (wrap64 (clz + 2)) x0 = some (o, b6)) (z1 : ints_One.f K clz 0 = some (w, b7)) (z2 : ints_One.f K (wrap64 (clz + 1)) 0 = some (w, b8))
    (h : (o = 0 ∧ p = w ∧ q = w) ∨ (0 < o ∧ 0 ≤ p ∧ 0 ≤ q ∧ p + q + o ≤ w)) : avocetlaw02_IntsCount.j0 (K + 1) x0 x1 true clz w shl = some true := by
  simp only [avocetlaw02_IntsCount.j0]
  have e1 : IntKind.u64.wrap (IntKind.u64.wrap (w - 1) - kk) = w - 1 - kk := by rw [wrap_u64_, wrap_u64_]; omega
  rw [if_neg (by omega), hk, h1, Option.bind_some, c1, Option.bind_some, c2, Option.bind_some, c3, Option.bind_some, d1, Option.bind_some, d2, Option.bind_some, d3, Option.bind_some, z1, Option.bind_some, z2, Option.bind_some, if_pos trivial]
  simp only []
  rw [if_pos e1.symm, if_pos trivial, if_pos trivial, if_pos trivial, if_pos trivial]
  rcases h with ⟨e, ep, eq⟩ | ⟨e, p0, q0, s⟩
  · rw [if_pos e, if_neg (by omega), if_pos ep, eq, beq_self_eq_true]
  · have e2 : IntKind.u64.wrap (IntKind.u64.wrap (p + q) + o) = p + q + o := by rw [wrap_u64_, wrap_u64_]; omega
    rw [if_neg (by omega), e2, if_pos s, if_pos (by omega)]
theorem z32 : ints_One.f 1 103 0 = some (32, true) := (one_f 0 103 0 (by decide) (by decide)).trans (by decide)
theorem z64 : ints_One.f 1 121 0 = some (64, true) := (one_f 0 121 0 (by decide) (by decide)).trans (by decide)
theorem IntsCount : avocetlaw02_IntsCount.Pure := by
  intro a n c ha hn
  have ⟨a0, a1⟩ := LebM.wf_u64 ha
  have ⟨n0, n1⟩ := LebM.wf_u64 hn
  refine ⟨2, ?_⟩
  unfold avocetlaw02_IntsCount.f
  rw [awake_yes 1, Option.bind_some]
  have w1 : wrap64 (103 + 1) = 104 := by unfold wrap64; omega
  have w2 : wrap64 (103 + 2) = 105 := by unfold wrap64; omega
  have w3 : wrap64 (121 + 1) = 122 := by unfold wrap64; omega
  have w4 : wrap64 (121 + 2) = 123 := by unfold wrap64; omega
  cases c
  · rw [if_neg (by decide)]
    have ek : Int.tmod n 32 = n % 32 := Int.tmod_eq_emod_of_nonneg n0
    obtain ⟨k, hk⟩ : ∃ k : Nat, n % 32 = k := ⟨(n % 32).toNat, by omega⟩
    have kl : k < 32 := by omega
    obtain ⟨f1, f2, f3⟩ := pow_fin ⟨k, by omega⟩
    obtain ⟨f4, f5⟩ := pow_fin32 ⟨k, kl⟩
    simp only at f1 f2 f3 f4 f5
    have f5' : (2 : Int) ^ k < 4294967296 := by
      have h := Int.ofNat_lt.2 f5
      rw [Int.natCast_pow] at h
      exact h
    have p1 := pow_pos_ k
    have tw : ints_Two.f 116 1 (k : Int) = some ((2 : Int) ^ k, 0, true) := by
      rw [two_f 116 1 k (by decide) (by decide) (by omega) (by omega)]
      have e : twoV 116 1 k = (1 % 4294967296 * 2 ^ ((k : Int) % 4294967296 % 32).toNat % 4294967296, 0, true) := rfl
      rw [e, show ((k : Int) % 4294967296 % 32).toNat = k by omega, show (1 : Int) % 4294967296 * 2 ^ k = 2 ^ k by rw [show (1 : Int) % 4294967296 = 1 from rfl, Int.one_mul], Int.emod_eq_of_lt (by omega) f5']
    have en : ((2 : Int) ^ k % 4294967296).toNat = 2 ^ k := by
      rw [Int.emod_eq_of_lt (by omega) f5']
      rfl
    refine count_step (b1 := true) (b2 := true) (b3 := true) (b4 := true) (b5 := true) (b6 := true) (b7 := true) (b8 := true) 1 a n 103 32 116 k _ (32 - (Lib.bitLen (a % 4294967296).toNat : Int)) (Lib.ctz 32 (a % 4294967296).toNat : Nat) (Lib.onesCount (a % 4294967296).toNat : Nat) (Or.inl rfl) (ek.trans hk) (by omega) (by omega) tw ((one_f 0 103 _ (by omega) (by omega)).trans ?_) ?_ ?_ (one_f 0 103 a a0 a1) ?_ ?_ z32 ?_ ?_
    · show some (32 - (Lib.bitLen ((2 : Int) ^ k % 4294967296).toNat : Int), true) = _
      rw [en, f1]
      simp only [Option.some.injEq, Prod.mk.injEq, and_true]
      omega
    · rw [w1, one_f 0 104 _ (by omega) (by omega)]
      show some (((Lib.ctz 32 ((2 : Int) ^ k % 4294967296).toNat : Nat) : Int), true) = _
      rw [en, f4]
    · rw [w2, one_f 0 105 _ (by omega) (by omega)]
      show some (((Lib.onesCount ((2 : Int) ^ k % 4294967296).toNat : Nat) : Int), true) = _
      rw [en, f3]
      rfl
    · rw [w1]; exact one_f 0 104 a a0 a1
    · rw [w2]; exact one_f 0 105 a a0 a1
    · rw [w1, one_f 0 104 0 (by decide) (by decide)]; decide
    · have h := count_all 32 (a % 4294967296).toNat (Or.inl rfl) (by simp only [Nat.reducePow]; omega) _ _ _ rfl rfl rfl
      have l : Lib.bitLen (a % 4294967296).toNat ≤ 32 := bitLenAux_le' 64 32 _ (by simp only [Nat.reducePow]; omega)
      omega
  · rw [if_pos rfl]
    have ek : Int.tmod n 64 = n % 64 := Int.tmod_eq_emod_of_nonneg n0
    obtain ⟨k, hk⟩ : ∃ k : Nat, n % 64 = k := ⟨(n % 64).toNat, by omega⟩
    have kl : k < 64 := by omega
    obtain ⟨f1, f2, f3⟩ := pow_fin ⟨k, kl⟩
    have f5 := pow_fin64 ⟨k, kl⟩
    simp only at f1 f2 f3 f5
    have f5' : (2 : Int) ^ k < 18446744073709551616 := by
      have h := Int.ofNat_lt.2 f5
      rw [Int.natCast_pow] at h
      exact h
    have p1 := pow_pos_ k
    have tw : ints_Two.f 134 1 (k : Int) = some ((2 : Int) ^ k, 0, true) := by
      rw [two_f 134 1 k (by decide) (by decide) (by omega) (by omega)]
      have e : twoV 134 1 k = (IntKind.u64.wrap (1 * 2 ^ ((k : Int) % 64).toNat), 0, true) := rfl
      rw [e, show ((k : Int) % 64).toNat = k by omega, Int.one_mul, wrap_u64_, Int.emod_eq_of_lt (by omega) f5']
    have en : ((2 : Int) ^ k).toNat = 2 ^ k := rfl
    refine count_step (b1 := true) (b2 := true) (b3 := true) (b4 := true) (b5 := true) (b6 := true) (b7 := true) (b8 := true) 1 a n 121 64 134 k _ (64 - (Lib.bitLen a.toNat : Int)) (Lib.ctz 64 a.toNat : Nat) (Lib.onesCount a.toNat : Nat) (Or.inr rfl) (ek.trans hk) (by omega) (by omega) tw ((one_f 0 121 _ (by omega) (by omega)).trans ?_) ?_ ?_ (one_f 0 121 a a0 a1) ?_ ?_ z64 ?_ ?_
    · show some (64 - (Lib.bitLen ((2 : Int) ^ k).toNat : Int), true) = _
      rw [en, f1]
      simp only [Option.some.injEq, Prod.mk.injEq, and_true]
      omega
    · rw [w3, one_f 0 122 _ (by omega) (by omega)]
      show some (((Lib.ctz 64 ((2 : Int) ^ k).toNat : Nat) : Int), true) = _
      rw [en, f2]
    · rw [w4, one_f 0 123 _ (by omega) (by omega)]
      show some (((Lib.onesCount ((2 : Int) ^ k).toNat : Nat) : Int), true) = _
      rw [en, f3]
      rfl
    · rw [w3]; exact one_f 0 122 a a0 a1
    · rw [w4]; exact one_f 0 123 a a0 a1
    · rw [w3, one_f 0 122 0 (by decide) (by decide)]; decide
    · have h := count_all 64 a.toNat (Or.inr rfl) (by simp only [Nat.reducePow]; omega) _ _ _ rfl rfl rfl
      have l : Lib.bitLen a.toNat ≤ 64 := bitLenAux_le 64 _
      omega
end Go.Proofs.YtjonlcnmpejamaaDoor.Pure
