/- The document's answer for layer 2, in plain words: kind, compare, divided. -/
import Derived.Test.YtjonlcnmpejamaaDoorG6
import Derived.Test.YtjonlcnmpejamaaDoorPureIntsDivide
import Derived.Test.YtjonlcnmpejamaaDoorPureIntsTurn
namespace Go.Proofs.YtjonlcnmpejamaaDoor.Pure
open Go.RowKit Go.Proofs.YtjonlcnmpejamaaDoor.G Go.Proofs.YtjonlcnmpejamaaDoorW.PrintWords Go.Proofs.YtjonlcnmpejamaaDoorW.PrintLast Go.Proofs.YtjonlcnmpejamaaDoorW.PrintMore
set_option linter.unusedVariables false
theorem rounds_up {α : Type} {f : Nat → Option α} (m : ∀ k, LeO (f k) (f (k + 1))) {n : Nat} {r : α} (h : f n = some r) : ∀ K, f (n + K) = some r
  | 0 => h
  | K + 1 => m (n + K) r (rounds_up m h K)
def kindV (op : Int) : Int × Int := if 69 ≤ op ∧ op ≤ 79 then (op - 69, 32) else if 80 ≤ op ∧ op ≤ 90 then (op - 80, 64) else if 103 ≤ op ∧ op ≤ 120 then (op - 92, 32) else if 121 ≤ op ∧ op ≤ 138 then (op - 110, 64) else (-1, 0)
set_option maxRecDepth 100000 in
theorem kind_fin : ∀ i : Fin 70, avocetref02_kind.f 3 (69 + (i.val : Int)) = some (kindV (69 + (i.val : Int))) := by decide +kernel
theorem kind_3 (op : Int) : avocetref02_kind.f 3 op = some (kindV op) := by
  by_cases h : 69 ≤ op ∧ op ≤ 138
  · have h1 := kind_fin ⟨(op - 69).toNat, by omega⟩
    have e : (69 : Int) + ((op - 69).toNat : Int) = op := by omega
    simp only [e] at h1
    exact h1
  · unfold kindV
    rw [if_neg (by omega), if_neg (by omega), if_neg (by omega), if_neg (by omega)]
    unfold avocetref02_kind.f
    by_cases c : op ≥ 69
    · rw [if_pos c, decide_eq_false (by omega)]
      show avocetref02_kind.j0 (2 + 1) op false = _
      simp only [avocetref02_kind.j0]
      rw [if_neg (by decide), if_pos (by omega), decide_eq_false (by omega)]
      show avocetref02_kind.j1 (1 + 1) op false = _
      simp only [avocetref02_kind.j1]
      rw [if_neg (by decide), if_pos (by omega), decide_eq_false (by omega)]
      show avocetref02_kind.j2 (0 + 1) op false = _
      simp only [avocetref02_kind.j2]
      rw [if_neg (by decide), if_pos (by omega), if_neg (by omega)]
    · rw [if_neg c]
      show avocetref02_kind.j0 (2 + 1) op false = _
      simp only [avocetref02_kind.j0]
      rw [if_neg (by decide), if_neg (by omega)]
      show avocetref02_kind.j1 (1 + 1) op false = _
      simp only [avocetref02_kind.j1]
      rw [if_neg (by decide), if_neg (by omega)]
      show avocetref02_kind.j2 (0 + 1) op false = _
      simp only [avocetref02_kind.j2]
      rw [if_neg (by decide), if_neg (by omega)]
theorem kind_f (K : Nat) (op : Int) : avocetref02_kind.f (3 + K) op = some (kindV op) := rounds_up (f := fun k => avocetref02_kind.f k op) (fun k => avocetref02_kind.mono op k) (kind_3 op) K
/-- The lowest w digits. -/
def lowV (a w : Int) : Int := if w = 32 then a % 4294967296 else a
theorem low_f (a w : Int) (a0 : 0 ≤ a) : avocetref02_low.f a w = some (lowV a w) := by
  unfold avocetref02_low.f lowV
  rw [Int.tmod_eq_emod_of_nonneg a0, apply_ite some]
/-- Half of what w digits count. -/
def half (w : Int) : Int := if w = 32 then 2147483648 else 9223372036854775808
theorem signed_f (a w : Int) (hw : w = 32 ∨ w = 64) (a0 : 0 ≤ a) (a1 : a < half w + half w) : avocetref02_signed.f a w = some (sg (half w) a) := by
  unfold avocetref02_signed.f
  rcases hw with h | h
  · subst h
    have e : half 32 = 2147483648 := rfl
    rw [e] at a1 ⊢
    unfold sg
    rw [if_pos rfl]
    split
    · congr 1; unfold wrap64; omega
    · congr 1; unfold wrap64; omega
  · subst h
    have e : half 64 = 9223372036854775808 := rfl
    rw [e] at a1 ⊢
    rw [if_neg (by decide), sg64 a a0 (by omega)]
theorem compare_f (k a b w : Int) (hw : w = 32 ∨ w = 64) (hk : 1 ≤ k ∧ k ≤ 10) (a0 : 0 ≤ a) (a1 : a < half w + half w) (b0 : 0 ≤ b) (b1 : b < half w + half w) : avocetref02_compare.f k a b w = some (cmpV (k - 1) a b (sg (half w) a) (sg (half w) b)) := by
  unfold avocetref02_compare.f
  rw [signed_f a w hw a0 a1, Option.bind_some, signed_f b w hw b0 b1, Option.bind_some]
  obtain rfl | rfl | rfl | rfl | rfl | rfl | rfl | rfl | rfl | rfl : k = 1 ∨ k = 2 ∨ k = 3 ∨ k = 4 ∨ k = 5 ∨ k = 6 ∨ k = 7 ∨ k = 8 ∨ k = 9 ∨ k = 10 := by omega
  all_goals rfl
theorem yes_f (c : Bool) : avocetref02_yes.f c = some (b01 c) := by cases c <;> rfl
/-- The quotients and the rests, as DivOps has them. -/
def divV (what x y H : Int) : Int × Int := if y = 0 then (0, 2) else if what = 0 then (if sg H y = -1 ∧ x = H then (0, 3) else (Int.tdiv (sg H x) (sg H y) % (H + H), 0)) else if what = 1 then (x / y, 0) else if what = 2 then (Int.tmod (sg H x) (sg H y) % (H + H), 0) else (x % y, 0)
theorem low_wrap (n w : Int) (hw : w = 32 ∨ w = 64) : lowV (IntKind.u64.wrap n) w = n % (half w + half w) := by
  rw [wrap_u64_]
  unfold lowV half
  rcases hw with h | h <;> subst h
  · rw [if_pos rfl, if_pos rfl]; omega
  · rw [if_neg (by decide), if_neg (by decide)]; omega
theorem low_wrap2 (n w : Int) (hw : w = 32 ∨ w = 64) : lowV (IntKind.u64.wrap (wrap64 n)) w = n % (half w + half w) := by
  rw [wrap_u64_]
  unfold lowV half wrap64
  rcases hw with h | h <;> subst h
  · rw [if_pos rfl, if_pos rfl]; omega
  · rw [if_neg (by decide), if_neg (by decide)]; omega
theorem half_pos (w : Int) : 2 ≤ half w := by unfold half; split <;> decide
theorem half_le (w : Int) (hw : w = 32 ∨ w = 64) : half w + half w ≤ 18446744073709551616 := by rcases hw with h | h <;> subst h <;> decide
theorem divided_f (what x y w : Int) (hw : w = 32 ∨ w = 64) (hk : 0 ≤ what ∧ what ≤ 3) (x0 : 0 ≤ x) (x1 : x < half w + half w) (y0 : 0 ≤ y) (y1 : y < half w + half w) : avocetref02_divided.f what x y w = some (divV what x y (half w)) := by
  have hl := half_le w hw
  have hp := half_pos w
  unfold avocetref02_divided.f divV
  by_cases c : y = 0
  · rw [if_pos c, if_pos c]
  rw [if_neg c, if_neg c]
  by_cases k1 : what = 1
  · subst k1
    rw [if_pos rfl, if_neg (by decide), if_pos rfl]
    have := div_range x y (by omega) x0 _ x1
    rw [wrap_u64_, Int.tdiv_eq_ediv_of_nonneg x0, Int.emod_eq_of_lt this.1 (Int.lt_of_lt_of_le this.2 hl)]
  rw [if_neg k1]
  by_cases k3 : what = 3
  · subst k3
    rw [if_pos rfl, if_neg (by decide), if_neg (by decide), if_neg (by decide), Int.tmod_eq_emod_of_nonneg x0]
  rw [if_neg k3, signed_f x w hw x0 x1, Option.bind_some, signed_f y w hw y0 y1, Option.bind_some]
  have sx := sg_range (half w) x x0 x1
  have sy := sg_range (half w) y y0 y1
  have ny : sg (half w) y ≠ 0 := by unfold sg; split <;> omega
  by_cases m : sg (half w) y = -1
  · rw [if_pos m]
    by_cases k2 : what = 2
    · subst k2
      rw [if_pos rfl, if_neg (by decide), if_neg (by decide), if_pos rfl, m, Int.tmod_neg, Int.tmod_one, Int.zero_emod]
    · have k0 : what = 0 := by omega
      subst k0
      have es : shl .u64 1 (IntKind.u64.wrap (wrap64 (w - 1))) = half w := by rcases hw with h | h <;> subst h <;> decide +kernel
      have ep : 0 ≤ IntKind.u64.wrap (wrap64 (w - 1)) := uw_lo _
      rw [if_neg k2, if_pos ep, es, if_pos rfl]
      by_cases d : x = half w
      · rw [if_pos d, if_pos ⟨m, d⟩]
      · rw [if_neg d, if_neg (fun h => d h.2), low_f _ _ (uw_lo _), Option.bind_some, low_wrap2 _ _ hw, m, Int.tdiv_neg, Int.tdiv_one]
  · rw [if_neg m]
    by_cases k0 : what = 0
    · subst k0
      rw [if_pos rfl, if_neg ny, low_f _ _ (uw_lo _), Option.bind_some, low_wrap2 _ _ hw, if_pos rfl, if_neg (fun h => m h.1)]
    · have k2 : what = 2 := by omega
      subst k2
      rw [if_neg k0, if_neg ny, low_f _ _ (uw_lo _), Option.bind_some, low_wrap _ _ hw, if_neg k0, if_neg k1, if_pos rfl]
end Go.Proofs.YtjonlcnmpejamaaDoor.Pure
