/- Quotient and rest make the number. -/
import Derived.Test.YtjonlcnmpejamaaDoorG9
import Derived.Test.YtjonlcnmpejamaaDoorIntsB
namespace Go.Proofs.YtjonlcnmpejamaaDoor.Pure
open Go.RowKit Go.Proofs.YtjonlcnmpejamaaDoor.G Go.Proofs.YtjonlcnmpejamaaDoorW.PrintWords Go.Proofs.YtjonlcnmpejamaaDoorW.PrintLast
/-- A number's signed number, of H + H numbers. -/
def sg (H v : Int) : Int := if v ≥ H then v - (H + H) else v
theorem dj1 (K : Nat) (a b dop t H x y q s r u sy : Int) (sign qq rr : Bool) (hx : ints_Value.f t (wrap64 a) = some x) (hy : ints_Value.f t (wrap64 b) = some y) (h1 : ints_Two.f dop x y = some (q, s, qq)) (h2 : ints_Two.f (wrap64 (dop + 2)) x y = some (r, u, rr)) (h3 : ints_Signed.f t y = some sy) :
    avocetlaw02_IntsDivide.j1 (K + 1) a b sign true dop t H = if y = 0 then (if s = 2 then some (u == 2) else some false) else if sign = true ∧ x = H then avocetlaw02_IntsDivide.j2 K sign true dop t x y q s r u (sy == -1) else avocetlaw02_IntsDivide.j2 K sign true dop t x y q s r u false := by
  simp only [avocetlaw02_IntsDivide.j1]
  rw [hx, Option.bind_some, hy, Option.bind_some, h1, Option.bind_some, h2, Option.bind_some]
  by_cases c : y = 0
  · rw [if_pos c, if_pos c, if_pos trivial]
  · rw [if_neg c, if_neg c]
    cases sign
    · rw [if_neg (by decide), if_neg (fun h => absurd h.1 (by decide))]
    · by_cases d : x = H
      · rw [if_pos rfl, if_pos d, if_pos ⟨rfl, d⟩, h3, Option.bind_some]
      · rw [if_pos rfl, if_neg d, if_neg (fun h => d h.2)]
theorem dj2_over (K : Nat) (dop t x y q : Int) (sign : Bool) : avocetlaw02_IntsDivide.j2 (K + 1) sign true dop t x y q 3 0 0 true = some true := by
  simp only [avocetlaw02_IntsDivide.j2]
  rfl
theorem dj2_go (K : Nat) (dop t x y q s r u : Int) (sign : Bool) : avocetlaw02_IntsDivide.j2 (K + 1) sign true dop t x y q s r u false = avocetlaw02_IntsDivide.j3 K sign true t x y q s r u (if sign = true then wrap64 (dop - 1) else wrap64 (wrap64 (dop - 1) - 1)) := by
  simp only [avocetlaw02_IntsDivide.j2]
  cases sign <;> rfl
theorem dj3 (K : Nat) (t x y q r m n mul : Int) (sign : Bool) (q1 q2 : Int × Bool) (h1 : ints_Two.f mul q y = some (m, q1)) (h2 : ints_Two.f (wrap64 (mul - 2)) m r = some (n, q2)) : avocetlaw02_IntsDivide.j3 (K + 1) sign true t x y q 0 r 0 mul = avocetlaw02_IntsDivide.j4 K sign true t x y r (n != x) := by
  simp only [avocetlaw02_IntsDivide.j3]
  rw [h1, Option.bind_some, h2, Option.bind_some]
  rfl
theorem dj4_u (K : Nat) (t x y r : Int) (h : r < y) : avocetlaw02_IntsDivide.j4 (K + 1) false true t x y r false = some true := by
  simp only [avocetlaw02_IntsDivide.j4]
  rw [if_neg (by decide), if_neg (by decide), if_pos trivial, decide_eq_true h]
theorem dj4_s (K : Nat) (t x y r sr sx : Int) (h1 : ints_Signed.f t r = some sr) (h2 : ints_Signed.f t x = some sx) (h : r = 0 ∨ (sr < 0 ↔ sx < 0)) : avocetlaw02_IntsDivide.j4 (K + 1) true true t x y r false = some true := by
  simp only [avocetlaw02_IntsDivide.j4]
  rw [if_neg (by decide), if_pos trivial]
  by_cases c : r = 0
  · rw [if_pos c]
    rfl
  · rw [if_neg c, h1, Option.bind_some, h2, Option.bind_some]
    have := h.resolve_left c
    rw [if_pos trivial, show decide (sr < 0) = decide (sx < 0) from decide_eq_decide.mpr this]
    simp
structure DivOps (op t H : Int) : Prop where
  hH : 2 ≤ H
  hop : 109 ≤ op ∧ op ≤ 127
  divs : ∀ x y, 0 ≤ x → x < H + H → 0 ≤ y → y < H + H → ints_Two.f op x y = some (if y = 0 then (0, 2, true) else if sg H y = -1 ∧ x = H then (0, 3, true) else (Int.tdiv (sg H x) (sg H y) % (H + H), 0, true))
  divu : ∀ x y, 0 ≤ x → x < H + H → 0 ≤ y → y < H + H → ints_Two.f (op + 1) x y = some (if y = 0 then (0, 2, true) else (x / y, 0, true))
  rems : ∀ x y, 0 ≤ x → x < H + H → 0 ≤ y → y < H + H → ints_Two.f (op + 2) x y = some (if y = 0 then (0, 2, true) else (Int.tmod (sg H x) (sg H y) % (H + H), 0, true))
  remu : ∀ x y, 0 ≤ x → x < H + H → 0 ≤ y → y < H + H → ints_Two.f (op + 3) x y = some (if y = 0 then (0, 2, true) else (x % y, 0, true))
  mul : ∀ x y, 0 ≤ x → x < H + H → 0 ≤ y → y < H + H → ints_Two.f (op - 1) x y = some (x * y % (H + H), 0, true)
  add : ∀ x y, 0 ≤ x → x < H + H → 0 ≤ y → y < H + H → ints_Two.f (op - 3) x y = some ((x + y) % (H + H), 0, true)
  sgn : ∀ x, 0 ≤ x → x < H + H → ints_Signed.f t x = some (sg H x)
theorem sg_mod (H v : Int) (h0 : 0 ≤ v) (h1 : v < H + H) : sg H v % (H + H) = v := by
  unfold sg
  split
  · rw [Int.sub_emod_right]
    exact Int.emod_eq_of_lt h0 h1
  · exact Int.emod_eq_of_lt h0 h1
theorem sg_sg (H v : Int) (hH : 2 ≤ H) (h0 : -H ≤ v) (h1 : v < H) : sg H (v % (H + H)) = v := by
  unfold sg
  by_cases c : 0 ≤ v
  · rw [Int.emod_eq_of_lt c (by omega), if_neg (by omega)]
  · have e : v % (H + H) = v + (H + H) := by
      rw [← Int.add_emod_right, Int.emod_eq_of_lt (by omega) (by omega)]
    rw [e, if_pos (by omega)]
    omega
theorem mod_make (M q y r Q Y R x X : Int) (hq : q % M = Q % M) (hy : y % M = Y % M) (hr : r % M = R % M) (h : Y * Q + R = X) (hx : X % M = x) : (q * y % M + r) % M = x := by
  rw [Int.emod_add_emod, Int.add_emod, Int.mul_emod, hq, hy, hr, ← Int.mul_emod, ← Int.add_emod, Int.mul_comm, h, hx]
theorem sg_range (H v : Int) (h0 : 0 ≤ v) (h1 : v < H + H) : -H ≤ sg H v ∧ sg H v < H := by
  unfold sg
  split <;> omega
theorem tm_le (X Y : Int) (c : 0 ≤ X) : Int.tmod X Y ≤ X := by
  obtain ⟨n, rfl⟩ := Int.eq_ofNat_of_zero_le c
  rcases Int.lt_trichotomy Y 0 with h | h | h
  · obtain ⟨m, rfl⟩ : ∃ m : Nat, Y = -(m : Int) := ⟨(-Y).toNat, by omega⟩
    rw [Int.tmod_neg, ← Int.ofNat_tmod]
    exact Int.ofNat_le.2 (Nat.mod_le _ _)
  · subst h; simp
  · obtain ⟨m, rfl⟩ := Int.eq_ofNat_of_zero_le (show 0 ≤ Y by omega)
    rw [← Int.ofNat_tmod]
    exact Int.ofNat_le.2 (Nat.mod_le _ _)
theorem tmod_bound (X Y H : Int) (hX : -H ≤ X ∧ X < H) : -H ≤ Int.tmod X Y ∧ Int.tmod X Y < H ∧ (Int.tmod X Y = 0 ∨ (Int.tmod X Y < 0 ↔ X < 0)) := by
  by_cases c : 0 ≤ X
  · have a := Int.tmod_nonneg Y c
    have b := tm_le X Y c
    omega
  · have a := Int.tmod_nonneg Y (show 0 ≤ -X by omega)
    have b := tm_le (-X) Y (by omega)
    have e : Int.tmod (-X) Y = - Int.tmod X Y := Int.neg_tmod X Y
    rw [e] at a b
    omega
theorem div_law (op t H a b x y : Int) (K : Nat) (D : DivOps op t H) (hx : ints_Value.f t (wrap64 a) = some x) (hy : ints_Value.f t (wrap64 b) = some y) (x0 : 0 ≤ x) (x1 : x < H + H) (y0 : 0 ≤ y) (y1 : y < H + H) (sign : Bool) :
    avocetlaw02_IntsDivide.j0 (K + 5) a b sign true (op + 1) t H = some true := by
  have hH := D.hH
  have hop := D.hop
  have w : ∀ n : Int, 0 ≤ n → n ≤ 1000 → wrap64 n = n := fun n p q => by unfold wrap64; omega
  have j0 : avocetlaw02_IntsDivide.j0 ((K + 4) + 1) a b sign true (op + 1) t H = avocetlaw02_IntsDivide.j1 (K + 4) a b sign true (if sign = true then op else op + 1) t H := by
    obtain ⟨K', hK⟩ : ∃ K', K + 4 = K' := ⟨_, rfl⟩
    rw [hK]
    simp only [avocetlaw02_IntsDivide.j0]
    cases sign
    · rfl
    · rw [w _ (by omega) (by omega), show op + 1 - 1 = op by omega, if_pos rfl, if_pos rfl]
  refine j0.trans ?_
  have h2u : ints_Two.f (wrap64 (op + 1 + 2)) x y = some (if y = 0 then (0, 2, true) else (x % y, 0, true)) := by
    rw [w _ (by omega) (by omega), show op + 1 + 2 = op + 3 by omega]; exact D.remu x y x0 x1 y0 y1
  have h2s : ints_Two.f (wrap64 (op + 2)) x y = some (if y = 0 then (0, 2, true) else (Int.tmod (sg H x) (sg H y) % (H + H), 0, true)) := by
    rw [w _ (by omega) (by omega)]; exact D.rems x y x0 x1 y0 y1
  have hs := D.sgn y y0 y1
  have M0 : (0 : Int) < H + H := by omega
  by_cases cy : y = 0
  · cases sign
    · rw [if_neg (by decide)]
      refine (dj1 (K + 3) a b (op + 1) t H x y _ _ _ _ _ false _ _ hx hy ((D.divu x y x0 x1 y0 y1).trans (by rw [if_pos cy])) (h2u.trans (by rw [if_pos cy])) hs).trans ?_
      rw [if_pos cy]
      rfl
    · rw [if_pos rfl]
      refine (dj1 (K + 3) a b op t H x y _ _ _ _ _ true _ _ hx hy ((D.divs x y x0 x1 y0 y1).trans (by rw [if_pos cy])) (h2s.trans (by rw [if_pos cy])) hs).trans ?_
      rw [if_pos cy]
      rfl
  · cases sign
    · rw [if_neg (by decide)]
      have yp : 0 < y := by omega
      have r0 := Int.emod_nonneg x cy
      have r1 := Int.emod_lt_of_pos x yp
      have q0 : 0 ≤ x / y := Int.ediv_nonneg x0 y0
      have q1 : x / y ≤ x := Int.ediv_le_self _ x0
      have e := Int.mul_ediv_add_emod x y
      have hm := D.mul (x / y) y q0 (by omega) y0 y1
      have m0 := Int.emod_nonneg (x / y * y) (show H + H ≠ 0 by omega)
      have m1 := Int.emod_lt_of_pos (x / y * y) M0
      have hn := D.add (x / y * y % (H + H)) (x % y) m0 m1 r0 (by omega)
      refine (dj1 (K + 3) a b (op + 1) t H x y _ _ _ _ _ false _ _ hx hy ((D.divu x y x0 x1 y0 y1).trans (by rw [if_neg cy])) (h2u.trans (by rw [if_neg cy])) hs).trans ?_
      rw [if_neg cy, if_neg (fun h => absurd h.1 (by decide))]
      refine (dj2_go (K + 2) (op + 1) t x y (x / y) 0 (x % y) 0 false).trans ?_
      rw [if_neg (by decide), w (op + 1 - 1) (by omega) (by omega), w (op + 1 - 1 - 1) (by omega) (by omega), show op + 1 - 1 - 1 = op - 1 by omega]
      refine (dj3 (K + 1) t x y (x / y) (x % y) _ _ (op - 1) false _ _ hm (by rw [w _ (by omega) (by omega), show op - 1 - 2 = op - 3 by omega]; exact hn)).trans ?_
      have en : (x / y * y % (H + H) + x % y) % (H + H) = x := mod_make (H + H) (x / y) y (x % y) (x / y) y (x % y) x x rfl rfl rfl e (Int.emod_eq_of_lt x0 x1)
      rw [en, bne_self_eq_false]
      exact dj4_u K t x y _ r1
    · rw [if_pos rfl]
      have hX := sg_range H x x0 x1
      have hY := sg_range H y y0 y1
      have t1 := tmod_bound (sg H x) (sg H y) H hX
      have r0 := Int.emod_nonneg (Int.tmod (sg H x) (sg H y)) (show H + H ≠ 0 by omega)
      have r1 := Int.emod_lt_of_pos (Int.tmod (sg H x) (sg H y)) M0
      by_cases c : sg H y = -1 ∧ x = H
      · have z : Int.tmod (sg H x) (sg H y) % (H + H) = 0 := by
          rw [c.1, Int.tmod_neg, Int.tmod_one]; rfl
        refine (dj1 (K + 3) a b op t H x y _ _ _ _ _ true _ _ hx hy ((D.divs x y x0 x1 y0 y1).trans (by rw [if_neg cy, if_pos c])) (h2s.trans (by rw [if_neg cy, z])) hs).trans ?_
        rw [if_neg cy, if_pos ⟨rfl, c.2⟩, show (sg H y == -1) = true from beq_iff_eq.mpr c.1]
        exact dj2_over (K + 2) op t x y 0 true
      · have q0 := Int.emod_nonneg (Int.tdiv (sg H x) (sg H y)) (show H + H ≠ 0 by omega)
        have q1 := Int.emod_lt_of_pos (Int.tdiv (sg H x) (sg H y)) M0
        obtain ⟨q, hq⟩ : ∃ q, Int.tdiv (sg H x) (sg H y) % (H + H) = q := ⟨_, rfl⟩
        obtain ⟨r, hr⟩ : ∃ r, Int.tmod (sg H x) (sg H y) % (H + H) = r := ⟨_, rfl⟩
        rw [hq] at q0 q1
        rw [hr] at r0 r1
        have hm := D.mul q y q0 q1 y0 y1
        have m0 := Int.emod_nonneg (q * y) (show H + H ≠ 0 by omega)
        have m1 := Int.emod_lt_of_pos (q * y) M0
        have hn := D.add (q * y % (H + H)) r m0 m1 r0 r1
        have h2 : ints_Two.f (wrap64 (op + 2)) x y = some (r, 0, true) := by
          rw [w _ (by omega) (by omega), D.rems x y x0 x1 y0 y1, if_neg cy, hr]
        refine (dj1 (K + 3) a b op t H x y q 0 r 0 _ true true true hx hy ((D.divs x y x0 x1 y0 y1).trans (by rw [if_neg cy, if_neg c, hq])) h2 hs).trans ?_
        rw [if_neg cy]
        have nx : (if true = true ∧ x = H then avocetlaw02_IntsDivide.j2 (K + 3) true true op t x y q 0 r 0 (sg H y == -1) else avocetlaw02_IntsDivide.j2 (K + 3) true true op t x y q 0 r 0 false) = avocetlaw02_IntsDivide.j2 (K + 3) true true op t x y q 0 r 0 false := by
          by_cases d : x = H
          · rw [if_pos ⟨rfl, d⟩, show (sg H y == -1) = false from beq_eq_false_iff_ne.mpr fun h => c ⟨h, d⟩]
          · rw [if_neg fun h => d h.2]
        rw [nx]
        refine (dj2_go (K + 2) op t x y q 0 r 0 true).trans ?_
        rw [if_pos rfl, w (op - 1) (by omega) (by omega)]
        refine (dj3 (K + 1) t x y q r _ _ (op - 1) true _ _ hm (by rw [w _ (by omega) (by omega), show op - 1 - 2 = op - 3 by omega]; exact hn)).trans ?_
        have en : (q * y % (H + H) + r) % (H + H) = x := mod_make (H + H) q y r (Int.tdiv (sg H x) (sg H y)) (sg H y) (Int.tmod (sg H x) (sg H y)) x (sg H x) (by rw [← hq, Int.emod_emod]) (by rw [sg_mod H y y0 y1, Int.emod_eq_of_lt y0 y1]) (by rw [← hr, Int.emod_emod]) (Int.mul_tdiv_add_tmod _ _) (sg_mod H x x0 x1)
        rw [en, bne_self_eq_false]
        have sr : sg H r = Int.tmod (sg H x) (sg H y) := by rw [← hr]; exact sg_sg H _ hH t1.1 t1.2.1
        refine dj4_s K t x y r _ _ (D.sgn r r0 r1) (D.sgn x x0 x1) ?_
        rw [sr]
        rcases t1.2.2 with h | h
        · left
          rw [← hr, h]; rfl
        · exact Or.inr h
theorem sg64 (v : Int) (h0 : 0 ≤ v) (h1 : v < 18446744073709551616) : wrap64 v = sg 9223372036854775808 v := by
  unfold wrap64 sg
  split <;> omega
theorem sg32 (v : Int) (h0 : 0 ≤ v) (h1 : v < 4294967296) : wrap64 (xt v) = sg 2147483648 v ∧ (xt v = 0 ↔ v = 0) ∧ wrap64 (wrap32 v) = sg 2147483648 v := by
  unfold xt
  rw [wrap_u64_]
  unfold wrap64 wrap32 sg
  split <;> omega
theorem two_w (j op a b : Int) (hop : op = 124 + j) (hj : 0 ≤ j ∧ j ≤ 14) (a0 : 0 ≤ a) (a1 : a < 18446744073709551616) (b0 : 0 ≤ b) (b1 : b < 18446744073709551616) : ints_Two.f op a b = some ((wideV j a b).1, (wideV j a b).2, true) := by
  rw [two_f op a b a0 a1 b0 b1]
  unfold twoV
  rw [if_neg (by omega), if_neg (by omega), if_neg (by omega), if_pos (by omega), show op - 124 = j by omega]
theorem two_n (j op a b : Int) (hop : op = 106 + j) (hj : 0 ≤ j ∧ j ≤ 14) (a0 : 0 ≤ a) (a1 : a < 4294967296) (b0 : 0 ≤ b) (b1 : b < 4294967296) : ints_Two.f op a b = some ((narV j a b).1, (narV j a b).2, true) := by
  rw [two_f op a b a0 (by omega) b0 (by omega)]
  unfold twoV
  rw [if_neg (by omega), if_neg (by omega), if_pos (by omega), show op - 106 = j by omega, Int.emod_eq_of_lt a0 a1, Int.emod_eq_of_lt b0 b1]
theorem pair3 {p : Int × Int} {u v : Int} (h : p = (u, v)) : some (p.1, p.2, true) = some (u, v, true) := by rw [h]
theorem ite3 {c : Prop} [Decidable c] (u v u' v' : Int) : some ((if c then (u, v) else (u', v')).1, (if c then (u, v) else (u', v')).2, true) = some (if c then (u, v, true) else (u', v', true)) := by
  split <;> rfl
theorem wide_ops : DivOps 127 126 9223372036854775808 where
  hH := by decide
  hop := by decide
  divs x y x0 x1 y0 y1 := by
    rw [two_w 3 127 x y (by decide) (by decide) x0 x1 y0 y1]
    have e : wideV 3 x y = dvV (-9223372036854775808) x y (IntKind.u64.wrap (wrap64 (Int.tdiv (wrap64 x) (wrap64 y)))) := rfl
    rw [e]
    unfold dvV
    by_cases c : y = 0
    · rw [if_pos c, if_pos c]
    · rw [if_neg c, if_neg c, ← sg64 y y0 y1, ← sg64 x x0 x1]
      have xe : wrap64 x = -9223372036854775808 ↔ x = 9223372036854775808 := by unfold wrap64; omega
      by_cases d : wrap64 y = -1 ∧ x = 9223372036854775808
      · rw [if_pos ⟨by decide, d.1, xe.2 d.2⟩, if_pos d]
      · rw [if_neg (fun h => d ⟨h.2.1, xe.1 h.2.2⟩), if_neg d]
        simp only [Option.some.injEq, Prod.mk.injEq, and_true]
        rw [wrap_u64_]
        unfold wrap64
        omega
  divu x y x0 x1 y0 y1 := by
    rw [two_w 4 (127 + 1) x y (by decide) (by decide) x0 x1 y0 y1]
    have e : wideV 4 x y = dvV 0 x y (IntKind.u64.wrap (Int.tdiv x y)) := rfl
    rw [e]
    unfold dvV
    by_cases c : y = 0
    · rw [if_pos c, if_pos c]
    · rw [if_neg c, if_neg c, if_neg (fun h => h.1 rfl)]
      simp only [Option.some.injEq, Prod.mk.injEq, and_true]
      have := div_range x y (by omega) x0 _ x1
      rw [wrap_u64_, Int.tdiv_eq_ediv_of_nonneg x0]
      exact Int.emod_eq_of_lt this.1 this.2
  rems x y x0 x1 y0 y1 := by
    rw [two_w 5 (127 + 2) x y (by decide) (by decide) x0 x1 y0 y1]
    have e : wideV 5 x y = dvV 0 x y (IntKind.u64.wrap (Int.tmod (wrap64 x) (wrap64 y))) := rfl
    rw [e]
    unfold dvV
    by_cases c : y = 0
    · rw [if_pos c, if_pos c]
    · rw [if_neg c, if_neg c, if_neg (fun h => h.1 rfl), ← sg64 y y0 y1, ← sg64 x x0 x1, wrap_u64_]
      rfl
  remu x y x0 x1 y0 y1 := by
    rw [two_w 6 (127 + 3) x y (by decide) (by decide) x0 x1 y0 y1]
    have e : wideV 6 x y = dvV 0 x y (Int.tmod x y) := rfl
    rw [e]
    unfold dvV
    by_cases c : y = 0
    · rw [if_pos c, if_pos c]
    · rw [if_neg c, if_neg c, if_neg (fun h => h.1 rfl), Int.tmod_eq_emod_of_nonneg x0]
  mul x y x0 x1 y0 y1 := by
    rw [two_w 2 (127 - 1) x y (by decide) (by decide) x0 x1 y0 y1]
    have e : wideV 2 x y = (IntKind.u64.wrap (x * y), 0) := rfl
    rw [e, wrap_u64_]
    rfl
  add x y x0 x1 y0 y1 := by
    rw [two_w 0 (127 - 3) x y (by decide) (by decide) x0 x1 y0 y1]
    have e : wideV 0 x y = (IntKind.u64.wrap (x + y), 0) := rfl
    rw [e, wrap_u64_]
    rfl
  sgn x x0 x1 := by
    unfold ints_Signed.f
    rw [if_neg (by decide), sg64 x x0 x1]
theorem mk_u (n t : Int) : mk32 (IntKind.u64.wrap n, t) = (n % 4294967296, t) := by
  show (bits .and .u64 _ 4294967295, t) = _
  rw [mask_ _ (uw_lo _) (uw_hi _), wrap_u64_]
  congr 1
  omega
theorem narrow_ops : DivOps 109 127 2147483648 where
  hH := by decide
  hop := by decide
  divs x y x0 x1 y0 y1 := by
    rw [two_n 3 109 x y (by decide) (by decide) x0 x1 y0 y1]
    have e : narV 3 x y = mk32 (dvV (-2147483648) (xt x) (xt y) (IntKind.u64.wrap (wrap64 (Int.tdiv (wrap64 (xt x)) (wrap64 (xt y)))))) := rfl
    have ⟨sx, zx, _⟩ := sg32 x x0 x1
    have ⟨sy, zy, _⟩ := sg32 y y0 y1
    rw [e]
    unfold dvV
    by_cases c : y = 0
    · rw [if_pos (zy.2 c), if_pos c]
      rfl
    · rw [if_neg (fun h => c (zy.1 h)), if_neg c, sx, sy]
      have xe : sg 2147483648 x = -2147483648 ↔ x = 2147483648 := by unfold sg; split <;> omega
      by_cases d : sg 2147483648 y = -1 ∧ x = 2147483648
      · rw [if_pos ⟨by decide, d.1, xe.2 d.2⟩, if_pos d]
        rfl
      · rw [if_neg (fun h => d ⟨h.2.1, xe.1 h.2.2⟩), if_neg d, mk_u]
        simp only [Option.some.injEq, Prod.mk.injEq, and_true]
        unfold wrap64
        omega
  divu x y x0 x1 y0 y1 := by
    rw [two_n 4 (109 + 1) x y (by decide) (by decide) x0 x1 y0 y1]
    have e : narV 4 x y = mk32 (dvV 0 x y (IntKind.u64.wrap (Int.tdiv x y))) := rfl
    rw [e]
    unfold dvV
    by_cases c : y = 0
    · rw [if_pos c, if_pos c]
      rfl
    · rw [if_neg c, if_neg c, if_neg (fun h => h.1 rfl), mk_u]
      simp only [Option.some.injEq, Prod.mk.injEq, and_true]
      have := div_range x y (by omega) x0 _ x1
      rw [Int.tdiv_eq_ediv_of_nonneg x0]
      exact Int.emod_eq_of_lt this.1 this.2
  rems x y x0 x1 y0 y1 := by
    rw [two_n 5 (109 + 2) x y (by decide) (by decide) x0 x1 y0 y1]
    have e : narV 5 x y = mk32 (dvV 0 (xt x) (xt y) (IntKind.u64.wrap (Int.tmod (wrap64 (xt x)) (wrap64 (xt y))))) := rfl
    have ⟨sx, zx, _⟩ := sg32 x x0 x1
    have ⟨sy, zy, _⟩ := sg32 y y0 y1
    rw [e]
    unfold dvV
    by_cases c : y = 0
    · rw [if_pos (zy.2 c), if_pos c]
      rfl
    · rw [if_neg (fun h => c (zy.1 h)), if_neg c, sx, sy, if_neg (fun h => h.1 rfl), mk_u]
      rfl
  remu x y x0 x1 y0 y1 := by
    rw [two_n 6 (109 + 3) x y (by decide) (by decide) x0 x1 y0 y1]
    have e : narV 6 x y = mk32 (dvV 0 x y (Int.tmod x y)) := rfl
    rw [e]
    unfold dvV
    by_cases c : y = 0
    · rw [if_pos c, if_pos c]
      rfl
    · rw [if_neg c, if_neg c, if_neg (fun h => h.1 rfl), Int.tmod_eq_emod_of_nonneg x0]
      have h1 := Int.emod_nonneg x c
      have h2 := Int.emod_lt_of_pos x (show 0 < y by omega)
      show some (bits .and .u64 (x % y) 4294967295, (0 : Int), true) = _
      rw [mask_ _ h1 (by omega), Int.emod_eq_of_lt h1 (by omega)]
  mul x y x0 x1 y0 y1 := by
    rw [two_n 2 (109 - 1) x y (by decide) (by decide) x0 x1 y0 y1]
    have e : narV 2 x y = mk32 (IntKind.u64.wrap (x * y), 0) := rfl
    rw [e, mk_u]
    rfl
  add x y x0 x1 y0 y1 := by
    rw [two_n 0 (109 - 3) x y (by decide) (by decide) x0 x1 y0 y1]
    have e : narV 0 x y = mk32 (IntKind.u64.wrap (x + y), 0) := rfl
    rw [e, mk_u]
    rfl
  sgn x x0 x1 := by
    unfold ints_Signed.f
    rw [if_pos rfl, (sg32 x x0 x1).2.2]
theorem IntsDivide : avocetlaw02_IntsDivide.Pure := by
  intro a b c d ha hb
  have ⟨a0, a1⟩ := LebM.wf_u64 ha
  have ⟨b0, b1⟩ := LebM.wf_u64 hb
  refine ⟨5, ?_⟩
  unfold avocetlaw02_IntsDivide.f
  rw [awake_yes 4, Option.bind_some]
  cases c
  · rw [if_neg (by decide)]
    have V : ∀ v, ints_Value.f 127 (wrap64 v) = some (v % 4294967296) := fun v => by
      unfold ints_Value.f
      rw [if_pos rfl]
      congr 1
      unfold wrap64
      omega
    exact div_law 109 127 2147483648 a b _ _ 0 narrow_ops (V a) (V b) (by omega) (by omega) (by omega) (by omega) d
  · rw [if_pos rfl]
    have V : ∀ v, 0 ≤ v → v < 18446744073709551616 → ints_Value.f 126 (wrap64 v) = some v := fun v h0 h1 => by
      unfold ints_Value.f
      rw [if_neg (by decide), wrap_u64_]
      congr 1
      unfold wrap64
      omega
    exact div_law 127 126 9223372036854775808 a b _ _ 0 wide_ops (V a a0 a1) (V b b0 b1) a0 (by omega) b0 (by omega) d
end Go.Proofs.YtjonlcnmpejamaaDoor.Pure
