/- What is told is of its type. -/
import Derived.Test.YtjonlcnmpejamaaDoorG3
import Derived.Test.YtjonlcnmpejamaaDoorIntsB
namespace Go.Proofs.YtjonlcnmpejamaaDoor.Pure
open Go.RowKit Go.Proofs.YtjonlcnmpejamaaDoor.G Go.Proofs.YtjonlcnmpejamaaDoorW.PrintWords Go.Proofs.YtjonlcnmpejamaaDoorW.PrintLast
def shapeV (op : Int) : List Int × Int × Bool :=
  if op = 69 then ([127], 127, true) else if op = 80 then ([126], 127, true) else if 70 ≤ op ∧ op ≤ 79 then ([127, 127], 127, true) else if 81 ≤ op ∧ op ≤ 90 then ([126, 126], 127, true)
  else if 103 ≤ op ∧ op ≤ 105 then ([127], 127, true) else if 106 ≤ op ∧ op ≤ 120 then ([127, 127], 127, true) else if 121 ≤ op ∧ op ≤ 123 then ([126], 126, true) else if 124 ≤ op ∧ op ≤ 138 then ([126, 126], 126, true)
  else if op = 167 then ([126], 127, true) else if op = 172 then ([127], 126, true) else if op = 173 then ([127], 126, true) else ([], 0, false)
theorem within_f (a f t : Int) : ints_within.f a f t = some (decide (f ≤ a ∧ a ≤ t)) := two_wi a f t _ (by by_cases h : f ≤ a ∧ a ≤ t <;> simp [h])
theorem shape_f (op : Int) : ints_Shape.f op = some (shapeV op) := by
  unfold ints_Shape.f shapeV
  simp only [within_f, Option.bind_some, decide_eq_true_eq, apply_ite some]
theorem dv_range (l a b r : Int) (h : b ≠ 0 → 0 ≤ r ∧ r < 18446744073709551616) : 0 ≤ (dvV l a b r).1 ∧ (dvV l a b r).1 < 18446744073709551616 ∧ ((dvV l a b r).2 = 0 ∨ (dvV l a b r).1 = 0) := by
  unfold dvV
  split
  · exact ⟨by decide, by decide, Or.inr rfl⟩
  · split
    · exact ⟨by decide, by decide, Or.inr rfl⟩
    · exact ⟨(h (by assumption)).1, (h (by assumption)).2, Or.inl rfl⟩
theorem wide_range (k a b : Int) (a0 : 0 ≤ a) (a1 : a < 18446744073709551616) (b0 : 0 ≤ b) (b1 : b < 18446744073709551616) : 0 ≤ (wideV k a b).1 ∧ (wideV k a b).1 < 18446744073709551616 ∧ ((wideV k a b).2 = 0 ∨ (wideV k a b).1 = 0) := by
  unfold wideV
  split
  · exact dv_range _ _ _ _ fun hb => wop_range k a b a0 a1 (Or.inl (by omega)) b1
  · have := wop_range k a b a0 a1 (Or.inr (by assumption)) b1
    exact ⟨this.1, this.2, Or.inl rfl⟩
theorem mk_range (p : Int × Int) (h : 0 ≤ p.1 ∧ p.1 < 18446744073709551616 ∧ (p.2 = 0 ∨ p.1 = 0)) : 0 ≤ (mk32 p).1 ∧ (mk32 p).1 < 4294967296 ∧ ((mk32 p).2 = 0 ∨ (mk32 p).1 = 0) := by
  unfold mk32
  simp only []
  rw [mask_ _ h.1 h.2.1]
  omega
theorem nar_range (k a b : Int) (a0 : 0 ≤ a) (a1 : a < 4294967296) (b0 : 0 ≤ b) (b1 : b < 4294967296) : 0 ≤ (narV k a b).1 ∧ (narV k a b).1 < 4294967296 ∧ ((narV k a b).2 = 0 ∨ (narV k a b).1 = 0) := by
  have W : ∀ n, 0 ≤ IntKind.u64.wrap n ∧ IntKind.u64.wrap n < 18446744073709551616 := fun n => ⟨uw_lo n, uw_hi n⟩
  have S : ∀ n, 0 ≤ n → n < 4294967296 → 0 ≤ IntKind.u64.wrap n ∧ IntKind.u64.wrap n < 4294967296 := fun n p q => by rw [wrap_u64_]; omega
  unfold narV
  split
  · exact mk_range _ (dv_range _ _ _ _ fun _ => W _)
  split
  · exact mk_range _ (dv_range _ _ _ _ fun _ => W _)
  split
  · exact ⟨by dsimp only; omega, by dsimp only; omega, Or.inl rfl⟩
  split
  · exact ⟨by dsimp only; omega, by dsimp only; omega, Or.inl rfl⟩
  split
  · have := div_range a (2 ^ (b % 32).toNat) (pow_pos_ _) a0 _ a1
    have := S _ this.1 this.2
    exact ⟨this.1, this.2, Or.inl rfl⟩
  split
  · have r := bits32_range .or ((a * 2 ^ (b % 32 % 32).toNat) % 4294967296) (a / 2 ^ (32 - b % 32 % 32).toNat)
    have := S _ r.1 r.2
    exact ⟨this.1, this.2, Or.inl rfl⟩
  split
  · have r := bits32_range .or ((a * 2 ^ (-(b % 32) % 32).toNat) % 4294967296) (a / 2 ^ (32 - -(b % 32) % 32).toNat)
    have := S _ r.1 r.2
    exact ⟨this.1, this.2, Or.inl rfl⟩
  · exact mk_range _ (wide_range k a b a0 (by omega) b0 (by omega))
theorem fits127 (x : Int) (h0 : 0 ≤ x) (h1 : x < 4294967296) : ints_Fits.f 127 x = some true := by
  unfold ints_Fits.f
  rw [if_neg (by decide), if_pos rfl, beq_iff_eq.mpr (by omega)]
theorem fits126 (x : Int) : ints_Fits.f 126 x = some true := rfl
theorem catA (op a b c r x : Int) (a0 : 0 ≤ a) (a1 : a < 18446744073709551616) (b0 : 0 ≤ b) (b1 : b < 18446744073709551616) (hs : shapeV op = ([c], r, true)) (h1 : oneV op a = (x, true)) (h2 : twoV op a b = (0, 0, false)) (hf : ints_Fits.f r x = some true) : avocetlaw02_IntsTypes.f 1 op a b = some true := by
  unfold avocetlaw02_IntsTypes.f
  rw [awake_yes 0, Option.bind_some, shape_f, Option.bind_some, one_f 0 op a a0 a1, Option.bind_some, two_f op a b a0 a1 b0 b1, Option.bind_some, hs, h1, h2]
  simp [hf]
theorem catC (op a b c r y t : Int) (a0 : 0 ≤ a) (a1 : a < 18446744073709551616) (b0 : 0 ≤ b) (b1 : b < 18446744073709551616) (hs : shapeV op = ([c, c], r, true)) (h1 : oneV op a = (0, false)) (h2 : twoV op a b = (y, t, true)) (hf : ints_Fits.f r y = some true) (ht : t = 0 ∨ y = 0) : avocetlaw02_IntsTypes.f 1 op a b = some true := by
  unfold avocetlaw02_IntsTypes.f
  rw [awake_yes 0, Option.bind_some, shape_f, Option.bind_some, one_f 0 op a a0 a1, Option.bind_some, two_f op a b a0 a1 b0 b1, Option.bind_some, hs, h1, h2]
  by_cases h : t = 0
  · simp [hf, h, rd]
  · have := ht.resolve_left h
    subst this
    simp [hf, h, rd]
theorem catE (op a b : Int) (a0 : 0 ≤ a) (a1 : a < 18446744073709551616) (b0 : 0 ≤ b) (b1 : b < 18446744073709551616) (hs : shapeV op = ([], 0, false)) (h1 : oneV op a = (0, false)) (h2 : twoV op a b = (0, 0, false)) : avocetlaw02_IntsTypes.f 1 op a b = some true := by
  unfold avocetlaw02_IntsTypes.f
  rw [awake_yes 0, Option.bind_some, shape_f, Option.bind_some, one_f 0 op a a0 a1, Option.bind_some, two_f op a b a0 a1 b0 b1, Option.bind_some, hs, h1, h2]
  simp
theorem b01_range (c : Bool) : 0 ≤ b01 c ∧ b01 c < 4294967296 := by cases c <;> decide
theorem two_none (op a b : Int) (h : ¬ (70 ≤ op ∧ op ≤ 79) ∧ ¬ (81 ≤ op ∧ op ≤ 90) ∧ ¬ (106 ≤ op ∧ op ≤ 120) ∧ ¬ (124 ≤ op ∧ op ≤ 138)) : twoV op a b = (0, 0, false) := by
  unfold twoV
  rw [if_neg h.1, if_neg h.2.1, if_neg h.2.2.1, if_neg h.2.2.2]
theorem one_none (op a : Int) (h : op ≠ 69 ∧ op ≠ 80 ∧ ¬ (103 ≤ op ∧ op ≤ 105) ∧ ¬ (121 ≤ op ∧ op ≤ 123) ∧ op ≠ 167 ∧ op ≠ 172 ∧ op ≠ 173) : oneV op a = (0, false) := by
  unfold oneV
  rw [if_neg (by omega), if_neg (by omega), if_neg (by omega), if_neg (by omega), if_neg (by omega), if_neg (by omega), if_neg (by omega), if_neg (by omega), if_neg (by omega), if_neg (by omega)]
theorem IntsTypes : avocetlaw02_IntsTypes.Pure := by
  intro op a b hop ha hb
  have ⟨a0, a1⟩ := LebM.wf_u64 ha
  have ⟨b0, b1⟩ := LebM.wf_u64 hb
  refine ⟨1, ?_⟩
  have q0 : 0 ≤ a % 4294967296 := by omega
  have q1 : a % 4294967296 < 4294967296 := by omega
  have r0 : 0 ≤ b % 4294967296 := by omega
  have r1 : b % 4294967296 < 4294967296 := by omega
  have l32 : Lib.bitLen (a % 4294967296).toNat ≤ 32 := bitLenAux_le' 64 32 _ (by simp only [Nat.reducePow]; omega)
  have t32 := ctz_le 32 (a % 4294967296).toNat
  have o32 : Lib.onesCount (a % 4294967296).toNat ≤ 64 := popAux_le 64 _
  by_cases c1 : op = 69
  · subst c1
    exact catA 69 a b 127 127 _ a0 a1 b0 b1 rfl rfl rfl (fits127 _ (b01_range _).1 (b01_range _).2)
  by_cases c2 : op = 80
  · subst c2
    exact catA 80 a b 126 127 _ a0 a1 b0 b1 rfl rfl rfl (fits127 _ (b01_range _).1 (b01_range _).2)
  by_cases c3 : 70 ≤ op ∧ op ≤ 79
  · refine catC op a b 127 127 _ _ a0 a1 b0 b1 (by unfold shapeV; rw [if_neg c1, if_neg c2, if_pos c3]) (one_none op a (by omega)) (by unfold twoV; rw [if_pos c3]) (fits127 _ (b01_range _).1 (b01_range _).2) (Or.inl rfl)
  by_cases c4 : 81 ≤ op ∧ op ≤ 90
  · refine catC op a b 126 127 _ _ a0 a1 b0 b1 (by unfold shapeV; rw [if_neg c1, if_neg c2, if_neg c3, if_pos c4]) (one_none op a (by omega)) (by unfold twoV; rw [if_neg c3, if_pos c4]) (fits127 _ (b01_range _).1 (b01_range _).2) (Or.inl rfl)
  by_cases c5 : 103 ≤ op ∧ op ≤ 105
  · obtain rfl | rfl | rfl : op = 103 ∨ op = 104 ∨ op = 105 := by omega
    · exact catA 103 a b 127 127 _ a0 a1 b0 b1 rfl rfl rfl (fits127 _ (by omega) (by omega))
    · exact catA 104 a b 127 127 _ a0 a1 b0 b1 rfl rfl rfl (fits127 _ (by omega) (by omega))
    · exact catA 105 a b 127 127 _ a0 a1 b0 b1 rfl rfl rfl (fits127 _ (by omega) (by omega))
  by_cases c6 : 106 ≤ op ∧ op ≤ 120
  · have n := nar_range (op - 106) _ _ q0 q1 r0 r1
    exact catC op a b 127 127 _ _ a0 a1 b0 b1 (by unfold shapeV; rw [if_neg c1, if_neg c2, if_neg c3, if_neg c4, if_neg c5, if_pos c6]) (one_none op a (by omega)) (by unfold twoV; rw [if_neg c3, if_neg c4, if_pos c6]) (fits127 _ n.1 n.2.1) n.2.2
  by_cases c7 : 121 ≤ op ∧ op ≤ 123
  · obtain rfl | rfl | rfl : op = 121 ∨ op = 122 ∨ op = 123 := by omega
    · exact catA 121 a b 126 126 _ a0 a1 b0 b1 rfl rfl rfl (fits126 _)
    · exact catA 122 a b 126 126 _ a0 a1 b0 b1 rfl rfl rfl (fits126 _)
    · exact catA 123 a b 126 126 _ a0 a1 b0 b1 rfl rfl rfl (fits126 _)
  by_cases c8 : 124 ≤ op ∧ op ≤ 138
  · have n := wide_range (op - 124) a b a0 a1 b0 b1
    exact catC op a b 126 126 _ _ a0 a1 b0 b1 (by unfold shapeV; rw [if_neg c1, if_neg c2, if_neg c3, if_neg c4, if_neg c5, if_neg c6, if_neg c7, if_pos c8]) (one_none op a (by omega)) (by unfold twoV; rw [if_neg c3, if_neg c4, if_neg c6, if_pos c8]) (fits126 _) n.2.2
  by_cases c9 : op = 167
  · subst c9
    exact catA 167 a b 126 127 _ a0 a1 b0 b1 rfl rfl rfl (fits127 _ q0 q1)
  by_cases c10 : op = 172
  · subst c10
    exact catA 172 a b 127 126 _ a0 a1 b0 b1 rfl rfl rfl (fits126 _)
  by_cases c11 : op = 173
  · subst c11
    exact catA 173 a b 127 126 _ a0 a1 b0 b1 rfl rfl rfl (fits126 _)
  · exact catE op a b a0 a1 b0 b1 (by unfold shapeV; rw [if_neg c1, if_neg c2, if_neg c3, if_neg c4, if_neg c5, if_neg c6, if_neg c7, if_neg c8, if_neg c9, if_neg c10, if_neg c11]) (one_none op a (by omega)) (two_none op a b ⟨c3, c4, c6, c8⟩)
end Go.Proofs.YtjonlcnmpejamaaDoor.Pure
