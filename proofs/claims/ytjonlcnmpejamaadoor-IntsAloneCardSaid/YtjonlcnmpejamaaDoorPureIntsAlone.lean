/- What has one neutral partner is itself. -/
import Derived.Test.YtjonlcnmpejamaaDoorG7
import Derived.Test.YtjonlcnmpejamaaDoorIntsB
namespace Go.Proofs.YtjonlcnmpejamaaDoor.Pure
open Go.RowKit Go.Proofs.YtjonlcnmpejamaaDoor.G Go.Proofs.YtjonlcnmpejamaaDoorW.PrintWords Go.Proofs.YtjonlcnmpejamaaDoorW.PrintLast
theorem alone_step (k : Nat) (op x : Int) {q0 q1 q2 q7 q8 q9 : Int × Bool} {q3 q4 : Bool} (h0 : ints_Two.f op x 0 = some (x, q0)) (h1 : ints_Two.f (wrap64 (op + 1)) x x = some (0, q1)) (h2 : ints_Two.f (wrap64 (op + 2)) x 1 = some (x, q2)) (h3 : ints_Two.f (wrap64 (op + 3)) x 1 = some (x, 0, q3)) (h4 : ints_Two.f (wrap64 (op + 4)) x 1 = some (x, 0, q4)) (h7 : ints_Two.f (wrap64 (op + 7)) x x = some (x, q7)) (h8 : ints_Two.f (wrap64 (op + 8)) x 0 = some (x, q8)) (h9 : ints_Two.f (wrap64 (op + 9)) x x = some (0, q9)) :
    avocetlaw02_IntsAlone.j0 (k + 1) true op x = some true := by
  simp only [avocetlaw02_IntsAlone.j0]
  rw [h0, Option.bind_some, h1, Option.bind_some, h2, Option.bind_some, h3, Option.bind_some, h4, Option.bind_some, h7, Option.bind_some, h8, Option.bind_some, h9, Option.bind_some]
  simp
theorem w1_ : wrap64 1 = 1 := by unfold wrap64; omega
theorem xt1_ : xt 1 = 1 := by
  unfold xt; rw [wrap_u64_]; unfold wrap64 wrap32; omega
theorem alone_wide (x : Int) (x0 : 0 ≤ x) (x1 : x < 18446744073709551616) : wideV 0 x 0 = (x, 0) ∧ wideV 1 x x = (0, 0) ∧ wideV 2 x 1 = (x, 0) ∧ wideV 3 x 1 = (x, 0) ∧ wideV 4 x 1 = (x, 0) ∧ wideV 7 x x = (x, 0) ∧ wideV 8 x 0 = (x, 0) ∧ wideV 9 x x = (0, 0) := by
  have en : ∃ n : Nat, x = n := ⟨x.toNat, by omega⟩
  refine ⟨?_, ?_, ?_, ?_, ?_, ?_, ?_, ?_⟩
  · show (IntKind.u64.wrap (x + 0), (0 : Int)) = _
    rw [wrap_u64_]; congr 1; omega
  · show (IntKind.u64.wrap (x - x), (0 : Int)) = _
    rw [wrap_u64_]; congr 1; omega
  · show (IntKind.u64.wrap (x * 1), (0 : Int)) = _
    rw [wrap_u64_]; congr 1; omega
  · show (if (1 : Int) = 0 then ((0 : Int), (2 : Int)) else if (-9223372036854775808 : Int) ≠ 0 ∧ wrap64 1 = -1 ∧ wrap64 x = -9223372036854775808 then (0, 3) else (IntKind.u64.wrap (wrap64 (Int.tdiv (wrap64 x) (wrap64 1))), 0)) = _
    rw [if_neg (by decide), if_neg (fun h => absurd h.2.1 (by rw [w1_]; decide)), w1_, Int.tdiv_one, wrap_u64_]
    unfold wrap64
    congr 1; omega
  · show (if (1 : Int) = 0 then ((0 : Int), (2 : Int)) else if (0 : Int) ≠ 0 ∧ wrap64 1 = -1 ∧ wrap64 x = 0 then (0, 3) else (IntKind.u64.wrap (Int.tdiv x 1), 0)) = _
    rw [if_neg (by decide), if_neg (fun h => absurd h.1 (by decide)), Int.tdiv_one, wrap_u64_]
    congr 1; omega
  · show (bits .and .u64 x x, (0 : Int)) = _
    obtain ⟨n, rfl⟩ := en
    rw [and_u64_nat n n (by omega) (by omega), Nat.and_self]
  · show (bits .or .u64 x 0, (0 : Int)) = _
    obtain ⟨n, rfl⟩ := en
    have := or_u64_nat n 0 (by omega) (by omega)
    rw [Nat.or_zero] at this
    exact congrArg (·, (0 : Int)) this
  · show (bits .xor .u64 x x, (0 : Int)) = _
    obtain ⟨n, rfl⟩ := en
    rw [xor_u64_nat n n (by omega) (by omega), Nat.xor_self]
    rfl
theorem mk32_small (x : Int) (x0 : 0 ≤ x) (x1 : x < 4294967296) (t : Int) : mk32 (x, t) = (x, t) := by
  show (bits .and .u64 x 4294967295, t) = _
  rw [mask_ x x0 (by omega)]
  congr 1; omega
theorem alone_narrow (x : Int) (x0 : 0 ≤ x) (x1 : x < 4294967296) : narV 0 x 0 = (x, 0) ∧ narV 1 x x = (0, 0) ∧ narV 2 x 1 = (x, 0) ∧ narV 3 x 1 = (x, 0) ∧ narV 4 x 1 = (x, 0) ∧ narV 7 x x = (x, 0) ∧ narV 8 x 0 = (x, 0) ∧ narV 9 x x = (0, 0) := by
  obtain ⟨h0, h1, h2, h3, h4, h7, h8, h9⟩ := alone_wide x x0 (by omega)
  refine ⟨?_, ?_, ?_, ?_, ?_, ?_, ?_, ?_⟩
  · show mk32 (wideV 0 x 0) = _
    rw [h0, mk32_small x x0 x1]
  · show mk32 (wideV 1 x x) = _
    rw [h1, mk32_small 0 (by omega) (by omega)]
  · show mk32 (wideV 2 x 1) = _
    rw [h2, mk32_small x x0 x1]
  · show mk32 (if xt 1 = 0 then ((0 : Int), (2 : Int)) else if (-2147483648 : Int) ≠ 0 ∧ wrap64 (xt 1) = -1 ∧ wrap64 (xt x) = -2147483648 then (0, 3) else (IntKind.u64.wrap (wrap64 (Int.tdiv (wrap64 (xt x)) (wrap64 (xt 1)))), 0)) = _
    rw [xt1_, if_neg (by decide), if_neg (fun h => absurd h.2.1 (by rw [w1_]; decide)), w1_, Int.tdiv_one]
    show (bits .and .u64 _ 4294967295, (0 : Int)) = _
    rw [mask_ _ (uw_lo _) (uw_hi _), wrap_u64_]
    unfold xt
    rw [wrap_u64_]
    unfold wrap64 wrap32
    congr 1; omega
  · show mk32 (wideV 4 x 1) = _
    rw [h4, mk32_small x x0 x1]
  · show mk32 (wideV 7 x x) = _
    rw [h7, mk32_small x x0 x1]
  · show mk32 (wideV 8 x 0) = _
    rw [h8, mk32_small x x0 x1]
  · show mk32 (wideV 9 x x) = _
    rw [h9, mk32_small 0 (by omega) (by omega)]
theorem two_w (j op a b : Int) (hop : op = 124 + j) (hj : 0 ≤ j ∧ j ≤ 14) (a0 : 0 ≤ a) (a1 : a < 18446744073709551616) (b0 : 0 ≤ b) (b1 : b < 18446744073709551616) : ints_Two.f op a b = some ((wideV j a b).1, (wideV j a b).2, true) := by
  rw [two_f op a b a0 a1 b0 b1]
  unfold twoV
  rw [if_neg (by omega), if_neg (by omega), if_neg (by omega), if_pos (by omega), show op - 124 = j by omega]
theorem two_n (j op a b : Int) (hop : op = 106 + j) (hj : 0 ≤ j ∧ j ≤ 14) (a0 : 0 ≤ a) (a1 : a < 18446744073709551616) (b0 : 0 ≤ b) (b1 : b < 18446744073709551616) : ints_Two.f op a b = some ((narV j (a % 4294967296) (b % 4294967296)).1, (narV j (a % 4294967296) (b % 4294967296)).2, true) := by
  rw [two_f op a b a0 a1 b0 b1]
  unfold twoV
  rw [if_neg (by omega), if_neg (by omega), if_pos (by omega), show op - 106 = j by omega]
theorem IntsAlone : avocetlaw02_IntsAlone.Pure := by
  intro a b ha
  have ⟨a0, a1⟩ := LebM.wf_u64 ha
  refine ⟨1, ?_⟩
  unfold avocetlaw02_IntsAlone.f
  rw [awake_yes 0, Option.bind_some]
  cases b
  · rw [if_neg (by decide), Int.tmod_eq_emod_of_nonneg a0]
    obtain ⟨x, hx⟩ : ∃ x, a % 4294967296 = x := ⟨_, rfl⟩
    rw [hx]
    have x0 : 0 ≤ x := by omega
    have x1 : x < 4294967296 := by omega
    have ex : x % 4294967296 = x := by omega
    obtain ⟨h0, h1, h2, h3, h4, h7, h8, h9⟩ := alone_narrow x x0 x1
    have K := fun (j op b : Int) (hop : op = 106 + j) (hj : 0 ≤ j ∧ j ≤ 14) (b0 : 0 ≤ b) (b1 : b < 4294967296) => (two_n j op x b hop hj x0 (by omega) b0 (by omega)).trans (by rw [ex, show b % 4294967296 = b by omega])
    refine alone_step 0 106 x ((K 0 106 0 (by decide) (by decide) (by decide) (by decide)).trans (by rw [h0])) ((K 1 _ x (by unfold wrap64; omega) (by decide) x0 x1).trans (by rw [h1])) ((K 2 _ 1 (by unfold wrap64; omega) (by decide) (by decide) (by decide)).trans (by rw [h2])) ((K 3 _ 1 (by unfold wrap64; omega) (by decide) (by decide) (by decide)).trans (by rw [h3])) ((K 4 _ 1 (by unfold wrap64; omega) (by decide) (by decide) (by decide)).trans (by rw [h4])) ((K 7 _ x (by unfold wrap64; omega) (by decide) x0 x1).trans (by rw [h7])) ((K 8 _ 0 (by unfold wrap64; omega) (by decide) (by decide) (by decide)).trans (by rw [h8])) ((K 9 _ x (by unfold wrap64; omega) (by decide) x0 x1).trans (by rw [h9]))
  · rw [if_pos rfl]
    obtain ⟨h0, h1, h2, h3, h4, h7, h8, h9⟩ := alone_wide a a0 a1
    have K := fun (j op b : Int) (hop : op = 124 + j) (hj : 0 ≤ j ∧ j ≤ 14) (b0 : 0 ≤ b) (b1 : b < 18446744073709551616) => two_w j op a b hop hj a0 a1 b0 b1
    refine alone_step 0 124 a ((K 0 124 0 (by decide) (by decide) (by decide) (by decide)).trans (by rw [h0])) ((K 1 _ a (by unfold wrap64; omega) (by decide) a0 a1).trans (by rw [h1])) ((K 2 _ 1 (by unfold wrap64; omega) (by decide) (by decide) (by decide)).trans (by rw [h2])) ((K 3 _ 1 (by unfold wrap64; omega) (by decide) (by decide) (by decide)).trans (by rw [h3])) ((K 4 _ 1 (by unfold wrap64; omega) (by decide) (by decide) (by decide)).trans (by rw [h4])) ((K 7 _ a (by unfold wrap64; omega) (by decide) a0 a1).trans (by rw [h7])) ((K 8 _ 0 (by unfold wrap64; omega) (by decide) (by decide) (by decide)).trans (by rw [h8])) ((K 9 _ a (by unfold wrap64; omega) (by decide) a0 a1).trans (by rw [h9]))
end Go.Proofs.YtjonlcnmpejamaaDoor.Pure
