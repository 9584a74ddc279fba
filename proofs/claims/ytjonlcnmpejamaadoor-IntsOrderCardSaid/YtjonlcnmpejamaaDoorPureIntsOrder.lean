/- Of two numbers just one is below, or they are one. -/
import Derived.Test.YtjonlcnmpejamaaDoorG7
import Derived.Test.YtjonlcnmpejamaaDoorIntsB
namespace Go.Proofs.YtjonlcnmpejamaaDoor.Pure
open Go.RowKit Go.Proofs.YtjonlcnmpejamaaDoor.G Go.Proofs.YtjonlcnmpejamaaDoorW.PrintWords Go.Proofs.YtjonlcnmpejamaaDoorW.PrintLast
theorem tri (X Y : Int) (E : Bool) (hE : E = (X == Y)) : IntKind.u64.wrap (IntKind.u64.wrap (b01 E + b01 (decide (X < Y))) + b01 (decide (X > Y))) = 1 ∧ b01 (decide (X ≤ Y)) = IntKind.u64.wrap (b01 E + b01 (decide (X < Y))) ∧ b01 (decide (X ≥ Y)) = IntKind.u64.wrap (b01 E + b01 (decide (X > Y))) := by
  subst hE
  rcases Int.lt_trichotomy X Y with h | h | h
  · rw [decide_eq_true h, decide_eq_false (show ¬ X > Y by omega), decide_eq_true (show X ≤ Y by omega), decide_eq_false (show ¬ X ≥ Y by omega), beq_eq_false_iff_ne.mpr (show X ≠ Y by omega)]
    decide
  · subst h
    have e1 : decide (X < X) = false := decide_eq_false (by omega)
    have e3 : decide (X ≤ X) = true := decide_eq_true (by omega)
    simp only [e1, e3, beq_self_eq_true]
    decide
  · rw [decide_eq_false (show ¬ X < Y by omega), decide_eq_true (show X > Y by omega), decide_eq_false (show ¬ X ≤ Y by omega), decide_eq_true (show X ≥ Y by omega), beq_eq_false_iff_ne.mpr (show X ≠ Y by omega)]
    decide
theorem order_round (K : Nat) (a b op i P Q n : Int) (E : Bool) (hE : E = (P == Q)) (hi : i < 4) (T2 : ints_Two.f (wrap64 (op + i)) a b = some (b01 (decide (P < Q)), 0, true)) (T4 : ints_Two.f (wrap64 (wrap64 (op + i) + 2)) a b = some (b01 (decide (P > Q)), 0, true)) (T6 : ints_Two.f (wrap64 (wrap64 (op + i) + 4)) a b = some (b01 (decide (P ≤ Q)), 0, true)) (T8 : ints_Two.f (wrap64 (wrap64 (op + i) + 6)) a b = some (b01 (decide (P ≥ Q)), 0, true)) :
    avocetlaw02_IntsOrder.l0 (K + 1) a b true op (b01 E) n i = avocetlaw02_IntsOrder.l0 K a b true op (b01 E) n (wrap64 (i + 1)) := by
  obtain ⟨s1, s2, s3⟩ := tri P Q E hE
  simp only [avocetlaw02_IntsOrder.l0]
  rw [if_pos hi, T2, Option.bind_some, T4, Option.bind_some, T6, Option.bind_some, T8, Option.bind_some]
  rw [if_pos s1, if_pos s2, if_pos s3]
theorem order_last (K : Nat) (a b op z : Int) (q : Int × Bool) (c : Bool) (h1 : ints_One.f K (wrap64 (op - 1)) a = some (z, true)) (h2 : ints_Two.f op a 0 = some (z, q)) : avocetlaw02_IntsOrder.l0 (K + 1) a b true op (b01 c) (b01 (!c)) 4 = some true := by
  simp only [avocetlaw02_IntsOrder.l0]
  rw [if_neg (by decide), h1, Option.bind_some, h2, Option.bind_some, if_pos trivial]
  have e : IntKind.u64.wrap (b01 c + b01 (!c)) = 1 := by cases c <;> rfl
  rw [if_pos e]
  simp
theorem order_head (K : Nat) (a b op e n : Int) (q q' : Int × Bool) (h1 : ints_Two.f op a b = some (e, q)) (h2 : ints_Two.f (wrap64 (op + 1)) a b = some (n, q')) : avocetlaw02_IntsOrder.j0 (K + 1) a b true op = avocetlaw02_IntsOrder.l0 K a b true op e n 2 := by
  simp only [avocetlaw02_IntsOrder.j0]
  rw [h1, Option.bind_some, h2, Option.bind_some]
theorem order_core (op a b A B X Y z : Int) (k : Nat) (hop : op = 70 ∨ op = 81) (hXY : (A == B) = (X == Y)) (T : ∀ j, 0 ≤ j → j ≤ 9 → ints_Two.f (op + j) a b = some (b01 (cmpV j A B X Y), 0, true)) (h1 : ints_One.f (k + 1) (op - 1) a = some (z, true)) (h2 : ∃ q, ints_Two.f op a 0 = some (z, q)) :
    avocetlaw02_IntsOrder.j0 (k + 5) a b true op = some true := by
  obtain ⟨q, h2⟩ := h2
  have T' : ∀ j op', 0 ≤ j → j ≤ 9 → op' = op + j → ints_Two.f op' a b = some (b01 (cmpV j A B X Y), 0, true) := fun j op' p0 p1 e => by rw [e]; exact T j p0 p1
  have w : ∀ n : Int, 0 ≤ n → n ≤ 1000 → wrap64 n = n := fun n p q => by unfold wrap64; omega
  have w2 := w (op + 2) (by omega) (by omega)
  have w3 := w (op + 3) (by omega) (by omega)
  refine (order_head (k + 4) a b op (b01 (A == B)) (b01 (!(A == B))) _ _ (T' 0 op (by omega) (by omega) (by omega)) (T' 1 _ (by omega) (by omega) (w _ (by omega) (by omega)))).trans ?_
  refine (order_round (k + 3) a b op 2 X Y _ (A == B) hXY (by omega) (T' 2 _ (by omega) (by omega) w2) (T' 4 _ (by omega) (by omega) (by rw [w2, w _ (by omega) (by omega)]; omega)) (T' 6 _ (by omega) (by omega) (by rw [w2, w _ (by omega) (by omega)]; omega)) (T' 8 _ (by omega) (by omega) (by rw [w2, w _ (by omega) (by omega)]; omega))).trans ?_
  rw [show wrap64 (2 + 1) = 3 from w 3 (by omega) (by omega)]
  refine (order_round (k + 2) a b op 3 A B _ (A == B) rfl (by omega) (T' 3 _ (by omega) (by omega) w3) (T' 5 _ (by omega) (by omega) (by rw [w3, w _ (by omega) (by omega)]; omega)) (T' 7 _ (by omega) (by omega) (by rw [w3, w _ (by omega) (by omega)]; omega)) (T' 9 _ (by omega) (by omega) (by rw [w3, w _ (by omega) (by omega)]; omega))).trans ?_
  rw [show wrap64 (3 + 1) = 4 from w 4 (by omega) (by omega)]
  exact order_last (k + 1) a b op z q (A == B) (by rw [w _ (by omega) (by omega)]; exact h1) h2
theorem IntsOrder : avocetlaw02_IntsOrder.Pure := by
  intro a b c ha hb
  have ⟨a0, a1⟩ := LebM.wf_u64 ha
  have ⟨b0, b1⟩ := LebM.wf_u64 hb
  refine ⟨5, ?_⟩
  unfold avocetlaw02_IntsOrder.f
  rw [awake_yes 4, Option.bind_some]
  cases c
  · rw [if_neg (by decide)]
    refine order_core 70 a b (a % 4294967296) (b % 4294967296) (wrap64 (wrap32 (a % 4294967296))) (wrap64 (wrap32 (b % 4294967296))) (b01 (a % 4294967296 == 0)) 0 (Or.inl rfl) ?_ ?_ ((one_f 0 _ a a0 a1).trans rfl) ⟨_, (two_f 70 a 0 a0 a1 (by decide) (by decide)).trans rfl⟩
    · rw [Bool.eq_iff_iff, beq_iff_eq, beq_iff_eq]
      unfold wrap64 wrap32
      omega
    · intro j j0 j1
      rw [two_f _ a b a0 a1 b0 b1]
      unfold twoV
      rw [if_pos (by omega), show 70 + j - 70 = j by omega]
  · rw [if_pos rfl]
    refine order_core 81 a b a b (wrap64 a) (wrap64 b) (b01 (a == 0)) 0 (Or.inr rfl) ?_ ?_ ((one_f 0 _ a a0 a1).trans rfl) ⟨_, (two_f 81 a 0 a0 a1 (by decide) (by decide)).trans rfl⟩
    · rw [Bool.eq_iff_iff, beq_iff_eq, beq_iff_eq]
      unfold wrap64
      omega
    · intro j j0 j1
      rw [two_f _ a b a0 a1 b0 b1]
      unfold twoV
      rw [if_neg (by omega), if_pos (by omega), show 81 + j - 81 = j by omega]
end Go.Proofs.YtjonlcnmpejamaaDoor.Pure
