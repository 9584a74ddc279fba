-- Made by gprint.py (mine) over the kit's print.py, out of the translation; parts of it typed by hand.
import Derived.Test.YtoeknjmdlmhajaaDoorG0
import Derived.Test.YtoeknjmdlmhajaaDoorG2
import Derived.Test.YtoeknjmdlmhajaaDoorG3
namespace Go.Proofs.YtoeknjmdlmhajaaDoor.G
open Go.RowKit Go.Proofs.YtoeknjmdlmhajaaDoorW.PrintWords Go.Proofs.YtoeknjmdlmhajaaDoorW.PrintLast Go.Proofs.YtoeknjmdlmhajaaDoorW.PrintMore
attribute [local go_sem] max2_int min2_int max_two min_two max_three min_three max_four min_four   -- for this text's walks alone
set_option linter.unusedVariables false
set_option linter.unusedSimpArgs false

/-! ### avocetref07_Same: function 14 -/
def avocetref07_Same.l0 : Nat → List (S36) → List (S36) → Int → Option (Bool)
  | 0, _, _, _ => none
  | k + 1, x0, x1, x5 => if x5 < (x0.length : Int) then (if 0 ≤ x5 then (if x5 < (x1.length : Int) then (if ((rd_T36 x0 x5).f0) = ((rd_T36 x1 x5).f0) then (if (strOfNums ((rd_T36 x0 x5).f1)).toList = (strOfNums ((rd_T36 x1 x5).f1)).toList then (avocetref07_Same.l0 k x0 x1 (wrap64 (x5 + 1))) else (some false)) else (some false)) else (none)) else (none)) else (some true)
def avocetref07_Same.f (k : Nat) (l0 : List (S36)) (l1 : List (S36)) : Option (Bool) := if (l0.length : Int) = (l1.length : Int) then (avocetref07_Same.l0 k l0 l1 0) else (some false)
theorem avocetref07_Same.mono_l : ∀ k, (∀ y0 y1 y2, LeO (avocetref07_Same.l0 k y0 y1 y2) (avocetref07_Same.l0 (k + 1) y0 y1 y2))
  | 0 => fun _ _ _ r h => by simp [avocetref07_Same.l0] at h
  | k + 1 => by
    have ih0 := avocetref07_Same.mono_l k
    · intro y0 y1 y2
      unfold avocetref07_Same.l0
      repeat' first
      | (with_reducible exact ih0 _ _ _)
      | (with_reducible exact LeO.refl _)
      | (with_reducible exact LeO.none _)
      | (with_reducible refine LeO.ite ?_ ?_)
      | (with_reducible refine LeO.bind ?_ (fun _ => ?_))
      | exact ih0 _ _ _
      | exact LeO.none _
      | refine LeO.ite ?_ ?_
      | refine LeO.bind ?_ (fun _ => ?_)
theorem avocetref07_Same.mono : ∀ a0 a1 k, LeO (avocetref07_Same.f k a0 a1) (avocetref07_Same.f (k + 1) a0 a1) := by
  intro a0 a1 k
  have ih0 := avocetref07_Same.mono_l k
  unfold avocetref07_Same.f
  repeat' first
      | (with_reducible exact ih0 _ _ _)
      | (with_reducible exact LeO.refl _)
      | (with_reducible exact LeO.none _)
      | (with_reducible refine LeO.ite ?_ ?_)
      | (with_reducible refine LeO.bind ?_ (fun _ => ?_))
      | exact ih0 _ _ _
      | exact LeO.none _
      | refine LeO.ite ?_ ?_
      | refine LeO.bind ?_ (fun _ => ?_)
set_option maxHeartbeats 8000000 in
set_option maxRecDepth 100000 in
theorem avocetref07_Same.calls (k : Nat) (A0 : Option Addr) (c0 : Nat) (l0 : List (S36)) (A1 : Option Addr) (c1 : Nat) (l1 : List (S36)) (r : Bool) (w : World) (hr0 : Kd.C k36 w A0 l0.length l0) (hc0 : l0.length ≤ c0) (hr1 : Kd.C k36 w A1 l1.length l1) (hc1 : l1.length ≤ c1) (h : avocetref07_Same.f k l0 l1 = some r) :
    Calls Tryd.prog 14 #[.slice A0 l0.length c0, .slice A1 l1.length c1] w fun e w' => e = .returned (.bool r) ∧ Drawn0 w w' := by
  have HR0 := Aside0.mk hr0
  have HC0 := Aside0.mk hc0
  clear hr0 hc0
  have HR1 := Aside0.mk hr1
  have HC1 := Aside0.mk hc1
  clear hr1 hc1
  have H : (if (l0.length : Int) = (l1.length : Int) then (avocetref07_Same.l0 k l0 l1 0) else (some false)) = some r := h
  clear h
  by_cases c3 : (l0.length : Int) = (l1.length : Int)
  · rw [if_pos c3] at H
    have c3b0 : ((l0.length : Int) == (l1.length : Int)) = true := beq_iff_eq.mpr c3
    have c3b1 : ((l0.length : Int) != (l1.length : Int)) = false := bne_eq_false_iff_eq.mpr c3
    have c3b2 : (l0.length == l1.length) = true := by first | simpa using c3 | (simp at c3 ⊢; omega)
    clear c3
    have H' := Aside0.mk H
    clear H
    go_enter Tryd.func14, Tryd.ntmps14
    go_wp2
    repeat (go_quiet (fail); try go_wp2)
    go_loopg [5] k (fun kq v5 w' => ∃ (x5_1 : Int), v5 = .int .i64 x5_1 ∧ Aside0 (avocetref07_Same.l0 kq l0 l1 x5_1 = some r) ∧ Aside0 (kq ≤ k) ∧ Drawn0 w w')
    case atStart => exact ⟨(0), (by first | rfl | (simp; done) | (simp [*]; done)), H', ⟨Nat.le_refl _⟩, by repeat (first | exact Drawn0.refl _ | apply Drawn0.step)⟩
    case round =>
      clear H'
      try clear c1
      try clear p2
      try clear c3
      try clear c3b0
      try clear c3b1
      try clear c3b2
      obtain ⟨x5_1, rfl, HA, HK1, ⟨m1, rfl⟩⟩ := hrel
      cases gk with
      | zero => exact absurd HA.out (by simp [avocetref07_Same.l0])
      | succ k1 =>
        have H := HA.out
        clear HA
        simp only [avocetref07_Same.l0] at H
        by_cases c4 : x5_1 < (l0.length : Int)
        · rw [if_pos c4] at H
          have c4b0 : decide (x5_1 < (l0.length : Int)) = true := decide_eq_true c4
          clear c4
          by_cases c5 : 0 ≤ x5_1
          · rw [if_pos c5] at H
            have c5b0 : decide (0 ≤ x5_1) = true := decide_eq_true c5
            clear c5
            by_cases c6 : x5_1 < (l1.length : Int)
            · rw [if_pos c6] at H
              have c6b0 : decide (x5_1 < (l1.length : Int)) = true := decide_eq_true c6
              clear c6
              by_cases c7 : ((rd_T36 l0 x5_1).f0) = ((rd_T36 l1 x5_1).f0)
              · rw [if_pos c7] at H
                have c7b0 : (((rd_T36 l0 x5_1).f0) == ((rd_T36 l1 x5_1).f0)) = true := beq_iff_eq.mpr c7
                have c7b1 : (((rd_T36 l0 x5_1).f0) != ((rd_T36 l1 x5_1).f0)) = false := bne_eq_false_iff_eq.mpr c7
                clear c7
                by_cases c8 : (strOfNums ((rd_T36 l0 x5_1).f1)).toList = (strOfNums ((rd_T36 l1 x5_1).f1)).toList
                · rw [if_pos c8] at H
                  have c8b0 : ((strOfNums ((rd_T36 l0 x5_1).f1)).toList == (strOfNums ((rd_T36 l1 x5_1).f1)).toList) = true := beq_iff_eq.mpr c8
                  have c8b1 : ((strOfNums ((rd_T36 l0 x5_1).f1)).toList != (strOfNums ((rd_T36 l1 x5_1).f1)).toList) = false := bne_eq_false_iff_eq.mpr c8
                  clear c8
                  have H' := Aside0.mk H
                  clear H
                  have p199 : 0 ≤ (x5_1 : Int) := of_decide_eq_true (by first | (with_reducible assumption) | assumption)
                  have q199 : x5_1 < (l0.length : Int) := of_decide_eq_true (by first | (with_reducible assumption) | assumption)
                  obtain ⟨ad199, A199_1, c199_1, e199, hx199_0, hx199_1, hl199_1, hi199_1⟩ := at_T36 HR0.out x5_1 p199 q199
                  cases e199
                  have HR199_1 := Aside0.mk hi199_1
                  have HC199_1 := Aside0.mk hl199_1
                  clear hi199_1 hl199_1
                  replace p199 := eq_true p199
                  replace q199 := eq_true q199
                  have p200 : 0 ≤ (x5_1 : Int) := of_decide_eq_true (by first | (with_reducible assumption) | assumption)
                  have q200 : x5_1 < (l1.length : Int) := of_decide_eq_true (by first | (with_reducible assumption) | assumption)
                  obtain ⟨ad200, A200_1, c200_1, e200, hx200_0, hx200_1, hl200_1, hi200_1⟩ := at_T36 HR1.out x5_1 p200 q200
                  cases e200
                  have HR200_1 := Aside0.mk hi200_1
                  have HC200_1 := Aside0.mk hl200_1
                  clear hi200_1 hl200_1
                  replace p200 := eq_true p200
                  replace q200 := eq_true q200
                  have p201 : 0 ≤ (x5_1 : Int) := of_decide_eq_true (by first | (with_reducible assumption) | assumption)
                  have q201 : x5_1 < (l0.length : Int) := of_decide_eq_true (by first | (with_reducible assumption) | assumption)
                  obtain ⟨ad201, A201_1, c201_1, e201, hx201_0, hx201_1, hl201_1, hi201_1⟩ := at_T36 HR0.out x5_1 p201 q201
                  obtain rfl : ad199 = ad201 := (by injection e201)
                  have HR201_1 := Aside0.mk hi201_1
                  have HC201_1 := Aside0.mk hl201_1
                  clear hi201_1 hl201_1
                  replace p201 := eq_true p201
                  replace q201 := eq_true q201
                  have ea_ := Option.some.inj (hx199_1.symm.trans hx201_1)
                  injection ea_ with ea_ en_ ec_
                  subst ea_
                  subst ec_
                  clear en_
                  have hcv9 := Kd.C_string (P := Tryd.prog) (A := A199_1) (c := c199_1) Tryd.underlying25 Tryd.underlying5 Tryd.underlying9 HR201_1.out; have hcw9 := fun (n_ : Nat) => Kd.C_string (P := Tryd.prog) (A := A199_1) (c := c199_1) Tryd.underlying25 Tryd.underlying5 Tryd.underlying9 (Kd.C_drewN HR201_1.out n_)
                  have p202 : 0 ≤ (x5_1 : Int) := of_decide_eq_true (by first | (with_reducible assumption) | assumption)
                  have q202 : x5_1 < (l1.length : Int) := of_decide_eq_true (by first | (with_reducible assumption) | assumption)
                  obtain ⟨ad202, A202_1, c202_1, e202, hx202_0, hx202_1, hl202_1, hi202_1⟩ := at_T36 HR1.out x5_1 p202 q202
                  obtain rfl : ad200 = ad202 := (by injection e202)
                  have HR202_1 := Aside0.mk hi202_1
                  have HC202_1 := Aside0.mk hl202_1
                  clear hi202_1 hl202_1
                  replace p202 := eq_true p202
                  replace q202 := eq_true q202
                  have ea_ := Option.some.inj (hx200_1.symm.trans hx202_1)
                  injection ea_ with ea_ en_ ec_
                  subst ea_
                  subst ec_
                  clear en_
                  have hcv10 := Kd.C_string (P := Tryd.prog) (A := A200_1) (c := c200_1) Tryd.underlying25 Tryd.underlying5 Tryd.underlying9 HR202_1.out; have hcw10 := fun (n_ : Nat) => Kd.C_string (P := Tryd.prog) (A := A200_1) (c := c200_1) Tryd.underlying25 Tryd.underlying5 Tryd.underlying9 (Kd.C_drewN HR202_1.out n_)
                  go_wp2
                  repeat (go_quiet (fail); try go_wp2)
                  go_roundg k1
                  case measure => have := HK1.out; omega
                  case rel => exact ⟨(wrap64 (x5_1 + 1)), (by first | rfl | (simp; done) | (simp [*]; done)), H', ⟨by have := HK1.out; omega⟩, by repeat (first | exact Drawn0.refl _ | apply Drawn0.step)⟩
                · rw [if_neg c8] at H
                  have c8b0 : ((strOfNums ((rd_T36 l0 x5_1).f1)).toList == (strOfNums ((rd_T36 l1 x5_1).f1)).toList) = false := beq_eq_false_iff_ne.mpr c8
                  have c8b1 : ((strOfNums ((rd_T36 l0 x5_1).f1)).toList != (strOfNums ((rd_T36 l1 x5_1).f1)).toList) = true := bne_iff_ne.mpr c8
                  obtain rfl := Option.some.inj H
                  have p199 : 0 ≤ (x5_1 : Int) := of_decide_eq_true (by first | (with_reducible assumption) | assumption)
                  have q199 : x5_1 < (l0.length : Int) := of_decide_eq_true (by first | (with_reducible assumption) | assumption)
                  obtain ⟨ad199, A199_1, c199_1, e199, hx199_0, hx199_1, hl199_1, hi199_1⟩ := at_T36 HR0.out x5_1 p199 q199
                  cases e199
                  have HR199_1 := Aside0.mk hi199_1
                  have HC199_1 := Aside0.mk hl199_1
                  clear hi199_1 hl199_1
                  replace p199 := eq_true p199
                  replace q199 := eq_true q199
                  have p200 : 0 ≤ (x5_1 : Int) := of_decide_eq_true (by first | (with_reducible assumption) | assumption)
                  have q200 : x5_1 < (l1.length : Int) := of_decide_eq_true (by first | (with_reducible assumption) | assumption)
                  obtain ⟨ad200, A200_1, c200_1, e200, hx200_0, hx200_1, hl200_1, hi200_1⟩ := at_T36 HR1.out x5_1 p200 q200
                  cases e200
                  have HR200_1 := Aside0.mk hi200_1
                  have HC200_1 := Aside0.mk hl200_1
                  clear hi200_1 hl200_1
                  replace p200 := eq_true p200
                  replace q200 := eq_true q200
                  have p201 : 0 ≤ (x5_1 : Int) := of_decide_eq_true (by first | (with_reducible assumption) | assumption)
                  have q201 : x5_1 < (l0.length : Int) := of_decide_eq_true (by first | (with_reducible assumption) | assumption)
                  obtain ⟨ad201, A201_1, c201_1, e201, hx201_0, hx201_1, hl201_1, hi201_1⟩ := at_T36 HR0.out x5_1 p201 q201
                  obtain rfl : ad199 = ad201 := (by injection e201)
                  have HR201_1 := Aside0.mk hi201_1
                  have HC201_1 := Aside0.mk hl201_1
                  clear hi201_1 hl201_1
                  replace p201 := eq_true p201
                  replace q201 := eq_true q201
                  have ea_ := Option.some.inj (hx199_1.symm.trans hx201_1)
                  injection ea_ with ea_ en_ ec_
                  subst ea_
                  subst ec_
                  clear en_
                  have hcv11 := Kd.C_string (P := Tryd.prog) (A := A199_1) (c := c199_1) Tryd.underlying25 Tryd.underlying5 Tryd.underlying9 HR201_1.out; have hcw11 := fun (n_ : Nat) => Kd.C_string (P := Tryd.prog) (A := A199_1) (c := c199_1) Tryd.underlying25 Tryd.underlying5 Tryd.underlying9 (Kd.C_drewN HR201_1.out n_)
                  have p202 : 0 ≤ (x5_1 : Int) := of_decide_eq_true (by first | (with_reducible assumption) | assumption)
                  have q202 : x5_1 < (l1.length : Int) := of_decide_eq_true (by first | (with_reducible assumption) | assumption)
                  obtain ⟨ad202, A202_1, c202_1, e202, hx202_0, hx202_1, hl202_1, hi202_1⟩ := at_T36 HR1.out x5_1 p202 q202
                  obtain rfl : ad200 = ad202 := (by injection e202)
                  have HR202_1 := Aside0.mk hi202_1
                  have HC202_1 := Aside0.mk hl202_1
                  clear hi202_1 hl202_1
                  replace p202 := eq_true p202
                  replace q202 := eq_true q202
                  have ea_ := Option.some.inj (hx200_1.symm.trans hx202_1)
                  injection ea_ with ea_ en_ ec_
                  subst ea_
                  subst ec_
                  clear en_
                  have hcv12 := Kd.C_string (P := Tryd.prog) (A := A200_1) (c := c200_1) Tryd.underlying25 Tryd.underlying5 Tryd.underlying9 HR202_1.out; have hcw12 := fun (n_ : Nat) => Kd.C_string (P := Tryd.prog) (A := A200_1) (c := c200_1) Tryd.underlying25 Tryd.underlying5 Tryd.underlying9 (Kd.C_drewN HR202_1.out n_)
                  go_wp2
                  repeat (go_quiet (fail); try go_wp2)
                  go_ret
                  exact ⟨by first | rfl | (simp; done) | (simp [*]; done), by repeat (first | exact Drawn0.refl _ | apply Drawn0.step)⟩
              · rw [if_neg c7] at H
                have c7b0 : (((rd_T36 l0 x5_1).f0) == ((rd_T36 l1 x5_1).f0)) = false := beq_eq_false_iff_ne.mpr c7
                have c7b1 : (((rd_T36 l0 x5_1).f0) != ((rd_T36 l1 x5_1).f0)) = true := bne_iff_ne.mpr c7
                obtain rfl := Option.some.inj H
                have p199 : 0 ≤ (x5_1 : Int) := of_decide_eq_true (by first | (with_reducible assumption) | assumption)
                have q199 : x5_1 < (l0.length : Int) := of_decide_eq_true (by first | (with_reducible assumption) | assumption)
                obtain ⟨ad199, A199_1, c199_1, e199, hx199_0, hx199_1, hl199_1, hi199_1⟩ := at_T36 HR0.out x5_1 p199 q199
                cases e199
                have HR199_1 := Aside0.mk hi199_1
                have HC199_1 := Aside0.mk hl199_1
                clear hi199_1 hl199_1
                replace p199 := eq_true p199
                replace q199 := eq_true q199
                have p200 : 0 ≤ (x5_1 : Int) := of_decide_eq_true (by first | (with_reducible assumption) | assumption)
                have q200 : x5_1 < (l1.length : Int) := of_decide_eq_true (by first | (with_reducible assumption) | assumption)
                obtain ⟨ad200, A200_1, c200_1, e200, hx200_0, hx200_1, hl200_1, hi200_1⟩ := at_T36 HR1.out x5_1 p200 q200
                cases e200
                have HR200_1 := Aside0.mk hi200_1
                have HC200_1 := Aside0.mk hl200_1
                clear hi200_1 hl200_1
                replace p200 := eq_true p200
                replace q200 := eq_true q200
                go_wp2
                repeat (go_quiet (fail); try go_wp2)
                go_ret
                exact ⟨by first | rfl | (simp; done) | (simp [*]; done), by repeat (first | exact Drawn0.refl _ | apply Drawn0.step)⟩
            · rw [if_neg c6] at H
              exact absurd H (by simp)
          · rw [if_neg c5] at H
            exact absurd H (by simp)
        · rw [if_neg c4] at H
          have c4b0 : decide (x5_1 < (l0.length : Int)) = false := decide_eq_false c4
          clear c4
          obtain rfl := Option.some.inj H
          go_wp2
          repeat (go_quiet (fail); try go_wp2)
          go_ret
          exact ⟨by first | rfl | (simp; done) | (simp [*]; done), by repeat (first | exact Drawn0.refl _ | apply Drawn0.step)⟩
  · rw [if_neg c3] at H
    have c3b0 : ((l0.length : Int) == (l1.length : Int)) = false := beq_eq_false_iff_ne.mpr c3
    have c3b1 : ((l0.length : Int) != (l1.length : Int)) = true := bne_iff_ne.mpr c3
    have c3b2 : (l0.length == l1.length) = false := by first | simpa using c3 | (simp at c3 ⊢; omega)
    obtain rfl := Option.some.inj H
    go_enter Tryd.func14, Tryd.ntmps14
    go_wp2
    repeat (go_quiet (fail); try go_wp2)
    go_ret
    exact ⟨by first | rfl | (simp; done) | (simp [*]; done), by repeat (first | exact Drawn0.refl _ | apply Drawn0.step)⟩

/-! ### avocetlaw07_theirs: function 15 -/
def avocetlaw07_theirs.l0 : Nat → List (S38) → List (S36) → Int → Option ((List (S36)))
  | 0, _, _, _ => none
  | k + 1, x0, x3, x4 => if x4 < (x0.length : Int) then (if 0 ≤ x4 then (if x3.length < 4398046511104 then (avocetlaw07_theirs.l0 k x0 (x3 ++ [(⟨(rd_T38 x0 x4).f0, (rd_T38 x0 x4).f1⟩ : S36)]) (wrap64 (x4 + 1))) else (none)) else (none)) else (some x3)
def avocetlaw07_theirs.f (k : Nat) (l0 : List (S38)) : Option ((List (S36))) := avocetlaw07_theirs.l0 k l0 ([] : List (S36)) 0
theorem avocetlaw07_theirs.mono_l : ∀ k, (∀ y0 y1 y2, LeO (avocetlaw07_theirs.l0 k y0 y1 y2) (avocetlaw07_theirs.l0 (k + 1) y0 y1 y2))
  | 0 => fun _ _ _ r h => by simp [avocetlaw07_theirs.l0] at h
  | k + 1 => by
    have ih0 := avocetlaw07_theirs.mono_l k
    · intro y0 y1 y2
      unfold avocetlaw07_theirs.l0
      repeat' first
      | (with_reducible exact ih0 _ _ _)
      | (with_reducible exact LeO.refl _)
      | (with_reducible exact LeO.none _)
      | (with_reducible refine LeO.ite ?_ ?_)
      | (with_reducible refine LeO.bind ?_ (fun _ => ?_))
      | exact ih0 _ _ _
      | exact LeO.none _
      | refine LeO.ite ?_ ?_
      | refine LeO.bind ?_ (fun _ => ?_)
theorem avocetlaw07_theirs.mono : ∀ a0 k, LeO (avocetlaw07_theirs.f k a0) (avocetlaw07_theirs.f (k + 1) a0) := by
  intro a0 k
  have ih0 := avocetlaw07_theirs.mono_l k
  unfold avocetlaw07_theirs.f
  repeat' first
      | (with_reducible exact ih0 _ _ _)
      | (with_reducible exact LeO.refl _)
      | (with_reducible exact LeO.none _)
      | (with_reducible refine LeO.ite ?_ ?_)
      | (with_reducible refine LeO.bind ?_ (fun _ => ?_))
      | exact ih0 _ _ _
      | exact LeO.none _
      | refine LeO.ite ?_ ?_
      | refine LeO.bind ?_ (fun _ => ?_)
def avocetlaw07_theirs.T5 : Bool × List (List Nat × List Nat) := (true, [([], []), ([], []), ([], []), ([1, 2], [1, 2]), ([3], [3]), ([4], [4]), ([], []), ([], []), ([6, 7], [6, 7]), ([8], [8]), ([9], [9]), ([5, 10], [5, 10]), ([11], [11]), ([0, 12], [0, 12]), ([13, 13, 0, 1, 2, 3, 4, 5, 6, 7, 8, 9, 10, 11, 12, 13], [0, 13])])
def avocetlaw07_theirs.B5 : List Nat := [0, 0, 0, 6, 14, 30, 0, 0, 192, 448, 960, 2046, 4094, 8191, 16383]
theorem avocetlaw07_theirs.tab5 : rtab .any (opsOf Tryd.f15 5) = avocetlaw07_theirs.T5 := by kernel_rfl
theorem avocetlaw07_theirs.bits5 : waitsOk avocetlaw07_theirs.T5.2 avocetlaw07_theirs.B5 = true := by kernel_rfl
set_option maxHeartbeats 8000000 in
set_option maxRecDepth 100000 in
theorem avocetlaw07_theirs.calls (k : Nat) (P0_ : Nat → Prop) (A0 : Option Addr) (c0 : Nat) (l0 : List (S38)) (r : List (S36)) (w : World) (hs0 : Kd.V k38 38 w w.heap.size (fun k_ => P0_ k_) (.slice A0 l0.length c0) l0) (h : avocetlaw07_theirs.f k l0 = some r) :
    Calls Tryd.prog 15 #[.slice A0 l0.length c0] w fun e w' => ∃ v0_ : Value, e = .returned (v0_) ∧ Kd.N k36 36 w' w.heap.size (fun k_ => (P0_ k_ ∨ w.heap.size ≤ k_)) v0_ r ∧ Below w.heap.size w w' := by
  have hu36 := Tryd.underlying36
  have HO0 := Aside0.mk (show Kd.V k38 38 w w.heap.size (fun k_ => (P0_ k_ ∨ w.heap.size ≤ k_)) (.slice A0 l0.length c0) l0 from Kd.V_mono hs0 (fun k_ hk => .inl hk))
  have HB := Aside0.mk (Below.refl w.heap.size w)
  have H : (avocetlaw07_theirs.l0 k l0 ([] : List (S36)) 0) = some r := h
  clear h
  have H' := Aside0.mk H
  clear H
  go_enter Tryd.func15, Tryd.ntmps15
  go_wp2
  go_loopg [3, 4] k (fun kq v3 v4 w' => ∃ (x3_1 : List (S36)) (x4_1 : Int), v4 = .int .i64 x4_1 ∧ Aside0 (avocetlaw07_theirs.l0 kq l0 x3_1 x4_1 = some r) ∧ Aside0 (kq ≤ k) ∧ Aside0 (Kd.V k38 38 w' w.heap.size (fun k_ => (P0_ k_ ∨ w.heap.size ≤ k_) ∧ some k_ ≠ (v3 : Value).ownBlock) (.slice A0 l0.length c0) l0) ∧ Aside0 (Kd.N k36 36 w' w.heap.size (fun k_ => (P0_ k_ ∨ w.heap.size ≤ k_)) v3 x3_1) ∧ Aside0 (Below w.heap.size w w'))
  case atStart => exact ⟨(([] : List (S36))), (0), (by first | rfl | (simp; done) | (simp [*]; done)), H', ⟨Nat.le_refl _⟩, ⟨by (with_reducible repeat (first | apply Kd.V_alloc | apply Kd.V_drewN | apply Kd.V_drew)); exact Kd.V_mono HO0.out (fun _ hk => ⟨hk, (by simp [Value.ownBlock])⟩)⟩, ⟨by first | exact Kd.S_nil _ _ _ _ _ | exact Kd.N_nil _ _ _ _ _ | exact Kd.V_nil _ _ _ _ _ | exact Kd.Q_nil _ _ _ _ _ | exact Kd.R_nil _ _ _ _ _⟩, ⟨by repeat (first | (with_reducible first | exact HB.out | apply below_alloc | apply pw_below_drewN | apply below_drew1) | exact HB.out)⟩⟩
  case round =>
    clear H'
    try clear c1
    obtain ⟨x3_1, x4_1, rfl, HA, HK1, HO_0, HO_3, HB⟩ := hrel
    cases gk with
    | zero => exact absurd HA.out (by simp [avocetlaw07_theirs.l0])
    | succ k1 =>
      have H := HA.out
      clear HA
      simp only [avocetlaw07_theirs.l0] at H
      by_cases c2 : x4_1 < (l0.length : Int)
      · rw [if_pos c2] at H
        have c2b0 : decide (x4_1 < (l0.length : Int)) = true := decide_eq_true c2
        clear c2
        by_cases c3 : 0 ≤ x4_1
        · rw [if_pos c3] at H
          have c3b0 : decide (0 ≤ x4_1) = true := decide_eq_true c3
          clear c3
          by_cases c4 : x3_1.length < 4398046511104
          · rw [if_pos c4] at H
            have LMc4 := Aside0.mk c4
            clear c4
            obtain ⟨y205, hy205⟩ : ∃ y_ : List (S36), y_ = (x3_1 ++ [(⟨(rd_T38 l0 x4_1).f0, (rd_T38 l0 x4_1).f1⟩ : S36)]) := ⟨_, rfl⟩
            replace H : (avocetlaw07_theirs.l0 k1 l0 y205 (wrap64 (x4_1 + 1))) = some r := by first | (rw [hy205]; with_reducible exact H) | (have H2_ := (Option.bind_some _ _).symm.trans H; rw [hy205]; with_reducible exact H2_) | (have H2_ := (Option.bind_some _ _).symm.trans H; with_reducible exact H2_) | with_reducible exact H | (rw [hy205]; exact H) | exact H
            have Ny205 := Aside0.mk hy205
            clear hy205
            have H' := Aside0.mk H
            clear H
            try go_wp2
            have n0_ := Aside0.mk (Kd.V_drew HO_0.out)
            have n1_ := Aside0.mk (Kd.N_drew HO_3.out)
            have n2_ := Aside0.mk (below_drew1 HB.out)
            clear HO_0
            clear HO_3
            clear HB
            have HO_0 := n0_
            have HO_3 := n1_
            have HB := n2_
            clear n0_ n1_ n2_
            have p203 : 0 ≤ (x4_1 : Int) := of_decide_eq_true (by first | (with_reducible assumption) | assumption)
            have q203 : x4_1 < (l0.length : Int) := of_decide_eq_true (by first | (with_reducible assumption) | assumption)
            obtain ⟨ad203, A203_1, c203_1, e203, hx203_0, hx203_1, hl203_1, hi203_1⟩ := at_T38 (Kd.V_reads' HO_0.out).2.2 x4_1 p203 q203
            cases e203
            obtain ⟨ce203, hce203, hMe203, hcc203⟩ := Kd.V_get HO_0.out z38 x4_1 p203 (by first | exact q203 | exact of_decide_eq_true (by first | (with_reducible assumption) | assumption) | (have e_ := (Kd.V_reads' HO_0.out).1; omega))
            obtain ⟨ua203_1, uc203_1, rfl, ul203_1, ge203_1⟩ := k38_openF hMe203
            have hv203_1 := hcc203 1 _ rfl
            rw [add_field _ _ 1 (by omega)] at hv203_1
            replace hv203_1 := Option.some.inj (hv203_1.symm.trans hx203_1)
            injection hv203_1 with hva_ hvn_ hvc_
            rw [hva_] at ge203_1
            rw [hvc_] at ul203_1
            have HL203_1 := Aside0.mk (show Kd.V (Kd.int .u8) 5 _ w.heap.size _ _ ((rd_T38 l0 x4_1).f1) from Kd.V_mk ul203_1 ge203_1)
            clear hva_ hvn_ hvc_ ge203_1 ul203_1
            clear hcc203 hce203
            have HR203_1 := Aside0.mk hi203_1
            have HC203_1 := Aside0.mk hl203_1
            clear hi203_1 hl203_1
            replace p203 := eq_true p203
            replace q203 := eq_true q203
            have p204 : 0 ≤ (x4_1 : Int) := of_decide_eq_true (by first | (with_reducible assumption) | assumption)
            have q204 : x4_1 < (l0.length : Int) := of_decide_eq_true (by first | (with_reducible assumption) | assumption)
            obtain ⟨ad204, A204_1, c204_1, e204, hx204_0, hx204_1, hl204_1, hi204_1⟩ := at_T38 (Kd.V_reads' HO_0.out).2.2 x4_1 p204 q204
            obtain rfl : ad203 = ad204 := (by injection e204)
            obtain ⟨ce204, hce204, hMe204, hcc204⟩ := Kd.V_get HO_0.out z38 x4_1 p204 (by first | exact q204 | exact of_decide_eq_true (by first | (with_reducible assumption) | assumption) | (have e_ := (Kd.V_reads' HO_0.out).1; omega))
            obtain ⟨ua204_1, uc204_1, rfl, ul204_1, ge204_1⟩ := k38_openF hMe204
            have hv204_1 := hcc204 1 _ rfl
            rw [add_field _ _ 1 (by omega)] at hv204_1
            replace hv204_1 := Option.some.inj (hv204_1.symm.trans hx204_1)
            injection hv204_1 with hva_ hvn_ hvc_
            rw [hva_] at ge204_1
            rw [hvc_] at ul204_1
            have HL204_1 := Aside0.mk (show Kd.V (Kd.int .u8) 5 _ w.heap.size _ _ ((rd_T38 l0 x4_1).f1) from Kd.V_mk ul204_1 ge204_1)
            clear hva_ hvn_ hvc_ ge204_1 ul204_1
            clear hcc204 hce204
            have HR204_1 := Aside0.mk hi204_1
            have HC204_1 := Aside0.mk hl204_1
            clear hi204_1 hl204_1
            replace p204 := eq_true p204
            replace q204 := eq_true q204
            have ea_ := Option.some.inj (hx203_1.symm.trans hx204_1)
            injection ea_ with ea_ en_ ec_
            subst ea_
            subst ec_
            clear en_
            refine start_ (n := 15) (S := fun w' => w'.cell? (ad203.add ((x4_1).toNat * 2)) = some (.int .i64 ((rd_T38 l0 x4_1).f0)) ∧ w'.cell? ⟨(ad203.add ((x4_1).toNat * 2)).block, (ad203.add ((x4_1).toNat * 2)).off + 1, none⟩ = some (.slice A203_1 ((rd_T38 l0 x4_1).f1).length c203_1) ∧ w'.cell? (ad203.add ((x4_1).toNat * 2)) = some (.int .i64 ((rd_T38 l0 x4_1).f0)) ∧ w'.cell? ⟨(ad203.add ((x4_1).toNat * 2)).block, (ad203.add ((x4_1).toNat * 2)).off + 1, none⟩ = some (.slice A203_1 ((rd_T38 l0 x4_1).f1).length c203_1)) (ds := [12, 13]) #[false, false, false, false, false, false, false, false, false, false, false, false, false, false, false] (by kernel_rfl) rfl rfl ⟨hx203_0, hx203_1, hx204_0, hx204_1⟩ (fun hHeld => ?_); refine with_tabW avocetlaw07_theirs.tab5 avocetlaw07_theirs.bits5 (fun HT_ HW_ => ?_)
            generalize wr.drew = w5 at HO_0 HO_3 HB HL203_1 HL204_1 HR203_1 HR204_1 hx203_0 hx203_1 hx204_0 hx204_1 hHeld ⊢
            refine pure_ (i := 0) (N := some 11) (v := ?_) (a' := ?_) #[true, false, false, false, false, false, false, false, false, false, false, false, false, false, false] rfl rfl (any_of HT_.out (by kernel_rfl)) (fun _ _ _ h => h) (Or.inl ⟨by rfl, ?_⟩) ?_ ?_
            rotate_left
            · intro w'
              go_simp
              with_reducible rfl
            rotate_left
            · simp only [Act.put, List.setIfInBounds_toArray, List.set_cons_zero, List.set_cons_succ, i64_w, i32_w]
              rfl
            refine pure_ (i := 1) (N := some 12) (v := ?_) (a' := ?_) #[true, true, false, false, false, false, false, false, false, false, false, false, false, false, false] rfl rfl (any_of HT_.out (by kernel_rfl)) (fun _ _ _ h => h) (Or.inl ⟨by rfl, ?_⟩) ?_ ?_
            rotate_left
            · intro w'
              go_simp
              with_reducible rfl
            rotate_left
            · simp only [Act.put, List.setIfInBounds_toArray, List.set_cons_zero, List.set_cons_succ, i64_w, i32_w]
              rfl
            refine pure_ (i := 2) (N := some 13) (v := ?_) (a' := ?_) #[true, true, true, false, false, false, false, false, false, false, false, false, false, false, false] rfl rfl (any_of HT_.out (by kernel_rfl)) (fun _ _ _ h => h) (Or.inl ⟨by rfl, ?_⟩) ?_ ?_
            rotate_left
            · intro w'
              go_simp
              with_reducible rfl
            rotate_left
            · simp only [Act.put, List.setIfInBounds_toArray, List.set_cons_zero, List.set_cons_succ, i64_w, i32_w]
              rfl
            refine pure_ (i := 3) (N := some 14) (v := ?_) (a' := ?_) #[true, true, true, true, false, false, false, false, false, false, false, false, false, false, false] rfl rfl (any_of HT_.out (by kernel_rfl)) (fun _ _ _ h => h) (Or.inl ⟨by rfl, ?_⟩) ?_ ?_
            rotate_left
            · intro w'
              go_simp
              with_reducible rfl
            rotate_left
            · simp only [Act.put, List.setIfInBounds_toArray, List.set_cons_zero, List.set_cons_succ, i64_w, i32_w]
              rfl
            refine pure_ (i := 4) (N := some 15) (v := ?_) (a' := ?_) #[true, true, true, true, true, false, false, false, false, false, false, false, false, false, false] rfl rfl (any_of HT_.out (by kernel_rfl)) (fun _ _ _ h => h) (Or.inl ⟨by rfl, ?_⟩) ?_ ?_
            rotate_left
            · intro w'
              go_simp
              with_reducible rfl
            rotate_left
            · simp only [Act.put, List.setIfInBounds_toArray, List.set_cons_zero, List.set_cons_succ, i64_w, i32_w]
              rfl
            refine pure_ (i := 6) (N := some 17) (v := ?_) (a' := ?_) #[true, true, true, true, true, false, true, false, false, false, false, false, false, false, false] rfl rfl (any_of HT_.out (by kernel_rfl)) (fun _ _ _ h => h) (Or.inl ⟨by rfl, ?_⟩) ?_ ?_
            rotate_left
            · intro w'
              go_simp
              with_reducible rfl
            rotate_left
            · simp only [Act.put, List.setIfInBounds_toArray, List.set_cons_zero, List.set_cons_succ, i64_w, i32_w]
              rfl
            refine pure_ (i := 7) (N := some 18) (v := ?_) (a' := ?_) #[true, true, true, true, true, false, true, true, false, false, false, false, false, false, false] rfl rfl (any_of HT_.out (by kernel_rfl)) (fun _ _ _ h => h) (Or.inl ⟨by rfl, ?_⟩) ?_ ?_
            rotate_left
            · intro w'
              go_simp
              with_reducible rfl
            rotate_left
            · simp only [Act.put, List.setIfInBounds_toArray, List.set_cons_zero, List.set_cons_succ, i64_w, i32_w]
              rfl
            refine pure_ (i := 8) (N := some 19) (v := ?_) (a' := ?_) #[true, true, true, true, true, false, true, true, true, false, false, false, false, false, false] rfl rfl (any_of HT_.out (by kernel_rfl)) (fun _ _ _ h => h) (Or.inl ⟨by rfl, ?_⟩) ?_ ?_
            rotate_left
            · intro w'
              go_simp
              with_reducible rfl
            rotate_left
            · simp only [Act.put, List.setIfInBounds_toArray, List.set_cons_zero, List.set_cons_succ, i64_w, i32_w]
              rfl
            refine pure_ (i := 9) (N := some 20) (v := ?_) (a' := ?_) #[true, true, true, true, true, false, true, true, true, true, false, false, false, false, false] rfl rfl (any_of HT_.out (by kernel_rfl)) (fun _ _ _ h => h) (Or.inl ⟨by rfl, ?_⟩) ?_ ?_
            rotate_left
            · intro w'
              go_simp
              with_reducible rfl
            rotate_left
            · simp only [Act.put, List.setIfInBounds_toArray, List.set_cons_zero, List.set_cons_succ, i64_w, i32_w]
              rfl
            refine take_ (i := 5) (N := some 16) (v := ?_) (a' := ?_) #[true, true, true, true, true, true, true, true, true, true, false, false, false, false, false] rfl rfl (take_ofW HT_.out HW_.out (by kernel_rfl)) (fun _ _ _ h => h) (Or.inl ⟨by rfl, ?_⟩) hHeld ?_ ?_
            rotate_left
            · rintro w' ⟨s0, s1, s2, s3⟩
              go_simp
              with_reducible rfl
            rotate_left
            · simp only [Act.put, List.setIfInBounds_toArray, List.set_cons_zero, List.set_cons_succ, i64_w, i32_w]
              rfl
            refine take_ (i := 10) (N := some 21) (v := ?_) (a' := ?_) #[true, true, true, true, true, true, true, true, true, true, true, false, false, false, false] rfl rfl (take_ofW HT_.out HW_.out (by kernel_rfl)) (fun _ _ _ h => h) (Or.inl ⟨by rfl, ?_⟩) hHeld ?_ ?_
            rotate_left
            · rintro w' ⟨s0, s1, s2, s3⟩
              go_simp
              with_reducible rfl
            rotate_left
            · simp only [Act.put, List.setIfInBounds_toArray, List.set_cons_zero, List.set_cons_succ, i64_w, i32_w]
              rfl
            refine pure_ (i := 11) (N := some 22) (v := ?_) (a' := ?_) #[true, true, true, true, true, true, true, true, true, true, true, true, false, false, false] rfl rfl (any_of HT_.out (by kernel_rfl)) (fun _ _ _ h => h) (Or.inl ⟨by rfl, ?_⟩) ?_ ?_
            rotate_left
            · intro w'
              go_simp
              with_reducible rfl
            rotate_left
            · simp only [Act.put, List.setIfInBounds_toArray, List.set_cons_zero, List.set_cons_succ, i64_w, i32_w]
              rfl
            refine last_ (i := 12) (N := some 23) #[true, true, true, true, true, true, true, true, true, true, true, true, true, false, false] rfl rfl (one_of HT_.out (by kernel_rfl)) (by decide) (fun K hK => ?_)
            refine value_ (w1 := ?_) (v := ?_) (by rfl) rfl ?_ ?_
            rotate_left 2
            · go_simp
              constructor
              · rfl
              · rfl
            refine hK.out _ _ ?_
            clear hK K
            refine norm_ (a' := ?_) ?_ ?_
            rotate_left
            · show Act.put _ (some 23) _ = _
              simp only [Act.put, List.setIfInBounds_toArray, List.set_cons_zero, List.set_cons_succ, i64_w, i32_w]
              rfl
            refine last_ (i := 13) (N := some 24) #[true, true, true, true, true, true, true, true, true, true, true, true, true, true, false] rfl rfl (one_of HT_.out (by kernel_rfl)) (by decide) (fun K hK => ?_)
            refine Kd.N_append_step k36 (w0 := w) w.heap.size (by rfl) (.tmp 11) (.tmp 23) 22 36 (.agg #[(.int .i64 0), (.slice none 0 0)]) 32 rfl Tryd.underlying22 info36 rfl (by decide) (by omega) u3 x3_1 (⟨(rd_T38 l0 x4_1).f0, (rd_T38 l0 x4_1).f1⟩ : S36) [.int .i64 ((rd_T38 l0 x4_1).f0), .slice A203_1 ((rd_T38 l0 x4_1).f1).length c203_1] (fun k_ => (P0_ k_ ∨ w.heap.size ≤ k_)) (fun k_ => ((fun k_ => (P0_ k_ ∨ w.heap.size ≤ k_))) k_ ∧ some k_ ≠ (u3 : Value).ownBlock) rfl rfl ?aP (fun _ hk => hk) ?aF ?aO ?aB ?aS ?aL ?_
            (case aP => exact (k36_mkF _ _ (⟨(rd_T38 l0 x4_1).f0, (rd_T38 l0 x4_1).f1⟩ : S36) (Kd.V_reads' (Kd.V_mono (ok' := (fun k_ => ((fun k_ => (P0_ k_ ∨ w.heap.size ≤ k_))) k_ ∧ some k_ ≠ (u3 : Value).ownBlock)) (HL204_1.out) (fun k_ hk => ⟨hk.1, hk.2⟩))).2.1 (Kd.V_F (Kd.V_mono (ok' := (fun k_ => ((fun k_ => (P0_ k_ ∨ w.heap.size ≤ k_))) k_ ∧ some k_ ≠ (u3 : Value).ownBlock)) (HL204_1.out) (fun k_ hk => ⟨hk.1, hk.2⟩)))))
            (case aB => exact (by repeat (first | (with_reducible first | exact HB.out | apply below_alloc | apply pw_below_drewN | apply below_drew1) | exact HB.out)))
            (case aF => exact (fun k_ hk => (.inr (Nat.le_trans (below_size (by repeat (first | (with_reducible first | exact HB.out | apply below_alloc | apply pw_below_drewN | apply below_drew1) | exact HB.out))) hk))))
            (case aO => exact (by (with_reducible repeat (first | apply Kd.N_alloc | apply Kd.N_drewN | apply Kd.N_drew)); exact HO_3.out))
            (case aS => exact (below_size (by repeat (first | (with_reducible first | exact HB.out | apply below_alloc | apply pw_below_drewN | apply below_drew1) | exact HB.out))))
            (case aL => have := LMc4.out; omega)
            intro v206 w6 ho hb hg hat
            rw [← Ny205.out] at ho
            have n0_ := Aside0.mk (Kd.V_afterv (ok := (fun k_ => (P0_ k_ ∨ w.heap.size ≤ k_))) (by (with_reducible repeat (first | apply Kd.V_alloc | apply Kd.V_drewN | apply Kd.V_drew)); exact HO_0.out) hg hat)
            have n1_ := Aside0.mk (Kd.V_afterv (ok := (fun k_ => (P0_ k_ ∨ w.heap.size ≤ k_))) (by (with_reducible repeat (first | apply Kd.V_alloc | apply Kd.V_drewN | apply Kd.V_drew)); exact HL203_1.out) hg hat)
            have n2_ := Aside0.mk (Kd.V_afterv (ok := (fun k_ => (P0_ k_ ∨ w.heap.size ≤ k_))) (by (with_reducible repeat (first | apply Kd.V_alloc | apply Kd.V_drewN | apply Kd.V_drew)); exact HL204_1.out) hg hat)
            have n3_ := Aside0.mk (hb)
            have n4_ := Aside0.mk (ho)
            clear HO_0
            clear HL203_1
            clear HL204_1
            clear HB
            clear HO_3
            have HO_0 := n0_
            have HL203_1 := n1_
            have HL204_1 := n2_
            have HB := n3_
            have HO207 := n4_
            clear n0_ n1_ n2_ n3_ n4_
            clear ho hb hg hat
            refine hK.out _ _ ?_
            clear hK K
            refine norm_ (a' := ?_) ?_ ?_
            rotate_left
            · show Act.put _ (some 24) _ = _
              simp only [Act.put, List.setIfInBounds_toArray, List.set_cons_zero, List.set_cons_succ, i64_w, i32_w]
              rfl
            refine pure_ (i := 14) (N := some 3) (v := ?_) (a' := ?_) #[true, true, true, true, true, true, true, true, true, true, true, true, true, true, true] rfl rfl (any_of HT_.out (by kernel_rfl)) (fun _ _ _ h => h) (Or.inl ⟨by rfl, ?_⟩) ?_ ?_
            rotate_left
            · intro w'
              go_simp
              with_reducible rfl
            rotate_left
            · simp only [Act.put, List.setIfInBounds_toArray, List.set_cons_zero, List.set_cons_succ, i64_w, i32_w]
              rfl
            refine done_ (done_of HT_.out (by kernel_rfl)) ?_
            try go_wp2
            go_roundg k1
            case measure => have := HK1.out; omega
            case rel => exact ⟨(y205), (wrap64 (x4_1 + 1)), (by first | rfl | (simp; done) | (simp [*]; done)), H', ⟨by have := HK1.out; omega⟩, ⟨by (with_reducible repeat (first | apply Kd.V_alloc | apply Kd.V_drewN | apply Kd.V_drew)); exact HO_0.out⟩, ⟨by (with_reducible repeat (first | apply Kd.N_alloc | apply Kd.N_drewN | apply Kd.N_drew)); exact HO207.out⟩, ⟨by repeat (first | (with_reducible first | exact HB.out | apply below_alloc | apply pw_below_drewN | apply below_drew1) | exact HB.out)⟩⟩
          · rw [if_neg c4] at H
            exact absurd H (by simp)
        · rw [if_neg c3] at H
          exact absurd H (by simp)
      · rw [if_neg c2] at H
        have c2b0 : decide (x4_1 < (l0.length : Int)) = false := decide_eq_false c2
        clear c2
        obtain rfl := Option.some.inj H
        go_wp2
        go_ret
        exact ⟨_, by first | rfl | (simp [errW_none, errW_some] <;> rfl) | (simp [*, errW_none, errW_some] <;> rfl), by (with_reducible repeat (first | apply Kd.N_alloc | apply Kd.N_drewN | apply Kd.N_drew)); exact HO_3.out, by repeat (first | (with_reducible first | exact HB.out | apply below_alloc | apply pw_below_drewN | apply below_drew1) | exact HB.out)⟩

/-! ### avocetlaw07_SectBack: function 3 -/
def avocetlaw07_SectBack.f (k : Nat) (l0 : List (S36)) : Option (Bool) := (avocetlaw07_awake.f k).bind fun t208 => ((avocetref07_Few.f k l0).bind fun t209 => (if t209 = true then ((avocetlaw07_ours.f k l0).bind fun t210 => ((sect_Join.f k t210).bind fun bt213 => (if bt213.2 = 0 then ((sect_Split.f k bt213.1).bind fun bt217 => (if bt217.2 = 0 then ((avocetlaw07_theirs.f k bt217.1).bind fun t221 => ((avocetref07_Same.f k t221 l0).bind fun t224 => (if t224 = true then (if 0 ≤ (mx 0 (wrap64 ((bt213.1.length : Int) - 1))) then (if (mx 0 (wrap64 ((bt213.1.length : Int) - 1))) ≤ (bt213.1.length : Int) then ((sect_Split.f k (bt213.1.take ((mx 0 (wrap64 ((bt213.1.length : Int) - 1))) : Int).toNat)).bind fun bt230 => (if t208 = true then (some (bt230.2 == 2)) else (some false))) else (none)) else (none)) else (some false)))) else (some false))) else (if t208 = true then (if (bt213.1.length : Int) = 0 then (if bt213.2 = 1 then (some true) else (some (bt213.2 == 4))) else (some false)) else (some false))))) else (some t208)))
theorem avocetlaw07_SectBack.mono : ∀ a0 k, LeO (avocetlaw07_SectBack.f k a0) (avocetlaw07_SectBack.f (k + 1) a0) := by
  intro a0 k
  unfold avocetlaw07_SectBack.f
  repeat' first
      | (with_reducible exact avocetlaw07_awake.mono _)
      | (with_reducible exact avocetlaw07_ours.mono _ _)
      | (with_reducible exact avocetlaw07_theirs.mono _ _)
      | (with_reducible exact avocetref07_Few.mono _ _)
      | (with_reducible exact avocetref07_Same.mono _ _ _)
      | (with_reducible exact sect_Join.mono _ _)
      | (with_reducible exact sect_Split.mono _ _)
      | (with_reducible exact LeO.refl _)
      | (with_reducible exact LeO.none _)
      | (with_reducible refine LeO.ite ?_ ?_)
      | (with_reducible refine LeO.bind ?_ (fun _ => ?_))
      | exact avocetlaw07_awake.mono _
      | exact avocetlaw07_ours.mono _ _
      | exact avocetlaw07_theirs.mono _ _
      | exact avocetref07_Few.mono _ _
      | exact avocetref07_Same.mono _ _ _
      | exact sect_Join.mono _ _
      | exact sect_Split.mono _ _
      | exact LeO.none _
      | refine LeO.ite ?_ ?_
      | refine LeO.bind ?_ (fun _ => ?_)
set_option maxHeartbeats 8000000 in
set_option maxRecDepth 100000 in
theorem avocetlaw07_SectBack.calls (k : Nat) (A0 : Option Addr) (c0 : Nat) (l0 : List (S36)) (r : Bool) (w : World) (hG : Globs w) (hr0 : Kd.C k36 w A0 l0.length l0) (hc0 : l0.length ≤ c0) (hr_ : r = true) (h : avocetlaw07_SectBack.f k l0 = some r) :
    Calls Tryd.prog 3 #[.slice A0 l0.length c0] w fun e w' => e = .returned (.bool r) ∧ Below w.heap.size w w' := by
  have HRT_ := Aside0.mk hr_
  clear hr_
  have HG := Aside0.mk hG
  clear hG
  have HR0 := Aside0.mk hr0
  have HC0 := Aside0.mk hc0
  clear hr0 hc0
  have HB := Aside0.mk (Below.refl w.heap.size w)
  have H : ((avocetlaw07_awake.f k).bind fun t208 => ((avocetref07_Few.f k l0).bind fun t209 => (if t209 = true then ((avocetlaw07_ours.f k l0).bind fun t210 => ((sect_Join.f k t210).bind fun bt213 => (if bt213.2 = 0 then ((sect_Split.f k bt213.1).bind fun bt217 => (if bt217.2 = 0 then ((avocetlaw07_theirs.f k bt217.1).bind fun t221 => ((avocetref07_Same.f k t221 l0).bind fun t224 => (if t224 = true then (if 0 ≤ (mx 0 (wrap64 ((bt213.1.length : Int) - 1))) then (if (mx 0 (wrap64 ((bt213.1.length : Int) - 1))) ≤ (bt213.1.length : Int) then ((sect_Split.f k (bt213.1.take ((mx 0 (wrap64 ((bt213.1.length : Int) - 1))) : Int).toNat)).bind fun bt230 => (if t208 = true then (some (bt230.2 == 2)) else (some false))) else (none)) else (none)) else (some false)))) else (some false))) else (if t208 = true then (if (bt213.1.length : Int) = 0 then (if bt213.2 = 1 then (some true) else (some (bt213.2 == 4))) else (some false)) else (some false))))) else (some t208)))) = some r := h
  clear h
  replace H := Option.bind_eq_some_iff.mp H
  obtain ⟨t208, A20, H⟩ := H
  replace H : ((avocetref07_Few.f k l0).bind fun t209 => (if t209 = true then ((avocetlaw07_ours.f k l0).bind fun t210 => ((sect_Join.f k t210).bind fun bt213 => (if bt213.2 = 0 then ((sect_Split.f k bt213.1).bind fun bt217 => (if bt217.2 = 0 then ((avocetlaw07_theirs.f k bt217.1).bind fun t221 => ((avocetref07_Same.f k t221 l0).bind fun t224 => (if t224 = true then (if 0 ≤ (mx 0 (wrap64 ((bt213.1.length : Int) - 1))) then (if (mx 0 (wrap64 ((bt213.1.length : Int) - 1))) ≤ (bt213.1.length : Int) then ((sect_Split.f k (bt213.1.take ((mx 0 (wrap64 ((bt213.1.length : Int) - 1))) : Int).toNat)).bind fun bt230 => (if t208 = true then (some (bt230.2 == 2)) else (some false))) else (none)) else (none)) else (some false)))) else (some false))) else (if t208 = true then (if (bt213.1.length : Int) = 0 then (if bt213.2 = 1 then (some true) else (some (bt213.2 == 4))) else (some false)) else (some false))))) else (some t208))) = some r := H
  have A2 := Aside0.mk A20
  clear A20
  replace H := Option.bind_eq_some_iff.mp H
  obtain ⟨t209, A30, H⟩ := H
  replace H : (if t209 = true then ((avocetlaw07_ours.f k l0).bind fun t210 => ((sect_Join.f k t210).bind fun bt213 => (if bt213.2 = 0 then ((sect_Split.f k bt213.1).bind fun bt217 => (if bt217.2 = 0 then ((avocetlaw07_theirs.f k bt217.1).bind fun t221 => ((avocetref07_Same.f k t221 l0).bind fun t224 => (if t224 = true then (if 0 ≤ (mx 0 (wrap64 ((bt213.1.length : Int) - 1))) then (if (mx 0 (wrap64 ((bt213.1.length : Int) - 1))) ≤ (bt213.1.length : Int) then ((sect_Split.f k (bt213.1.take ((mx 0 (wrap64 ((bt213.1.length : Int) - 1))) : Int).toNat)).bind fun bt230 => (if t208 = true then (some (bt230.2 == 2)) else (some false))) else (none)) else (none)) else (some false)))) else (some false))) else (if t208 = true then (if (bt213.1.length : Int) = 0 then (if bt213.2 = 1 then (some true) else (some (bt213.2 == 4))) else (some false)) else (some false))))) else (some t208)) = some r := H
  have A3 := Aside0.mk A30
  clear A30
  by_cases c4 : t209 = true
  · subst c4
    have H1 : ((avocetlaw07_ours.f k l0).bind fun t210 => ((sect_Join.f k t210).bind fun bt213 => (if bt213.2 = 0 then ((sect_Split.f k bt213.1).bind fun bt217 => (if bt217.2 = 0 then ((avocetlaw07_theirs.f k bt217.1).bind fun t221 => ((avocetref07_Same.f k t221 l0).bind fun t224 => (if t224 = true then (if 0 ≤ (mx 0 (wrap64 ((bt213.1.length : Int) - 1))) then (if (mx 0 (wrap64 ((bt213.1.length : Int) - 1))) ≤ (bt213.1.length : Int) then ((sect_Split.f k (bt213.1.take ((mx 0 (wrap64 ((bt213.1.length : Int) - 1))) : Int).toNat)).bind fun bt230 => (if t208 = true then (some (bt230.2 == 2)) else (some false))) else (none)) else (none)) else (some false)))) else (some false))) else (if t208 = true then (if (bt213.1.length : Int) = 0 then (if bt213.2 = 1 then (some true) else (some (bt213.2 == 4))) else (some false)) else (some false))))) = some r := by rw [if_pos rfl] at H; exact H
    clear H
    have H := H1
    clear H1
    replace H := Option.bind_eq_some_iff.mp H
    obtain ⟨t210, A50, H⟩ := H
    replace H : ((sect_Join.f k t210).bind fun bt213 => (if bt213.2 = 0 then ((sect_Split.f k bt213.1).bind fun bt217 => (if bt217.2 = 0 then ((avocetlaw07_theirs.f k bt217.1).bind fun t221 => ((avocetref07_Same.f k t221 l0).bind fun t224 => (if t224 = true then (if 0 ≤ (mx 0 (wrap64 ((bt213.1.length : Int) - 1))) then (if (mx 0 (wrap64 ((bt213.1.length : Int) - 1))) ≤ (bt213.1.length : Int) then ((sect_Split.f k (bt213.1.take ((mx 0 (wrap64 ((bt213.1.length : Int) - 1))) : Int).toNat)).bind fun bt230 => (if t208 = true then (some (bt230.2 == 2)) else (some false))) else (none)) else (none)) else (some false)))) else (some false))) else (if t208 = true then (if (bt213.1.length : Int) = 0 then (if bt213.2 = 1 then (some true) else (some (bt213.2 == 4))) else (some false)) else (some false)))) = some r := H
    have A5 := Aside0.mk A50
    clear A50
    replace H := Option.bind_eq_some_iff.mp H
    obtain ⟨⟨t213, t216⟩, A60, H⟩ := H
    replace H : (if t216 = 0 then ((sect_Split.f k t213).bind fun bt217 => (if bt217.2 = 0 then ((avocetlaw07_theirs.f k bt217.1).bind fun t221 => ((avocetref07_Same.f k t221 l0).bind fun t224 => (if t224 = true then (if 0 ≤ (mx 0 (wrap64 ((t213.length : Int) - 1))) then (if (mx 0 (wrap64 ((t213.length : Int) - 1))) ≤ (t213.length : Int) then ((sect_Split.f k (t213.take ((mx 0 (wrap64 ((t213.length : Int) - 1))) : Int).toNat)).bind fun bt230 => (if t208 = true then (some (bt230.2 == 2)) else (some false))) else (none)) else (none)) else (some false)))) else (some false))) else (if t208 = true then (if (t213.length : Int) = 0 then (if t216 = 1 then (some true) else (some (t216 == 4))) else (some false)) else (some false))) = some r := H
    have A6 := Aside0.mk A60
    clear A60
    by_cases c7 : t216 = 0
    · rw [if_pos c7] at H
      have c7b0 : (t216 == 0) = true := beq_iff_eq.mpr c7
      have c7b1 : (t216 != 0) = false := bne_eq_false_iff_eq.mpr c7
      clear c7
      replace H := Option.bind_eq_some_iff.mp H
      obtain ⟨⟨t217, t218⟩, A80, H⟩ := H
      replace H : (if t218 = 0 then ((avocetlaw07_theirs.f k t217).bind fun t221 => ((avocetref07_Same.f k t221 l0).bind fun t224 => (if t224 = true then (if 0 ≤ (mx 0 (wrap64 ((t213.length : Int) - 1))) then (if (mx 0 (wrap64 ((t213.length : Int) - 1))) ≤ (t213.length : Int) then ((sect_Split.f k (t213.take ((mx 0 (wrap64 ((t213.length : Int) - 1))) : Int).toNat)).bind fun bt230 => (if t208 = true then (some (bt230.2 == 2)) else (some false))) else (none)) else (none)) else (some false)))) else (some false)) = some r := H
      have A8 := Aside0.mk A80
      clear A80
      by_cases c9 : t218 = 0
      · rw [if_pos c9] at H
        have c9b0 : (t218 == 0) = true := beq_iff_eq.mpr c9
        have c9b1 : (t218 != 0) = false := bne_eq_false_iff_eq.mpr c9
        clear c9
        replace H := Option.bind_eq_some_iff.mp H
        obtain ⟨t221, A100, H⟩ := H
        replace H : ((avocetref07_Same.f k t221 l0).bind fun t224 => (if t224 = true then (if 0 ≤ (mx 0 (wrap64 ((t213.length : Int) - 1))) then (if (mx 0 (wrap64 ((t213.length : Int) - 1))) ≤ (t213.length : Int) then ((sect_Split.f k (t213.take ((mx 0 (wrap64 ((t213.length : Int) - 1))) : Int).toNat)).bind fun bt230 => (if t208 = true then (some (bt230.2 == 2)) else (some false))) else (none)) else (none)) else (some false))) = some r := H
        have A10 := Aside0.mk A100
        clear A100
        replace H := Option.bind_eq_some_iff.mp H
        obtain ⟨t224, A110, H⟩ := H
        replace H : (if t224 = true then (if 0 ≤ (mx 0 (wrap64 ((t213.length : Int) - 1))) then (if (mx 0 (wrap64 ((t213.length : Int) - 1))) ≤ (t213.length : Int) then ((sect_Split.f k (t213.take ((mx 0 (wrap64 ((t213.length : Int) - 1))) : Int).toNat)).bind fun bt230 => (if t208 = true then (some (bt230.2 == 2)) else (some false))) else (none)) else (none)) else (some false)) = some r := H
        have A11 := Aside0.mk A110
        clear A110
        by_cases c12 : t224 = true
        · subst c12
          have H1 : (if 0 ≤ (mx 0 (wrap64 ((t213.length : Int) - 1))) then (if (mx 0 (wrap64 ((t213.length : Int) - 1))) ≤ (t213.length : Int) then ((sect_Split.f k (t213.take ((mx 0 (wrap64 ((t213.length : Int) - 1))) : Int).toNat)).bind fun bt230 => (if t208 = true then (some (bt230.2 == 2)) else (some false))) else (none)) else (none)) = some r := by rw [if_pos rfl] at H; exact H
          clear H
          have H := H1
          clear H1
          obtain ⟨ji13, hji13⟩ : ∃ j_ : Int, (mx 0 (wrap64 ((t213.length : Int) - 1))) = j_ := ⟨_, rfl⟩
          replace H : (if 0 ≤ (ji13) then (if (ji13) ≤ (t213.length : Int) then ((sect_Split.f k (t213.take ((ji13) : Int).toNat)).bind fun bt230 => (if t208 = true then (some (bt230.2 == 2)) else (some false))) else (none)) else (none)) = some r := by first | (rw [hji13] at H; exact H) | (simp only [hji13] at H ⊢; exact H)
          (try rw [hji13] at A2)
          (try rw [hji13] at A3)
          (try rw [hji13] at A5)
          (try rw [hji13] at A6)
          (try rw [hji13] at A8)
          (try rw [hji13] at A10)
          (try rw [hji13] at A11)
          (try (have hji13l : 0 ≤ ji13 := by (rw [← hji13]; unfold mx; (repeat' split) <;> omega)))
          (try (have hji13m : 0 ≤ ji13 := by omega))
          have hji13_ : (if 0 < (wrap64 ((t213.length : Int) - 1)) then (wrap64 ((t213.length : Int) - 1)) else 0) = ji13 := hji13
          by_cases c14 : 0 ≤ (ji13)
          · rw [if_pos c14] at H
            have c14b0 := eq_true c14
            have c14b1 : decide (0 ≤ (ji13)) = true := decide_eq_true c14
            clear c14
            by_cases c15 : (ji13) ≤ (t213.length : Int)
            · rw [if_pos c15] at H
              have c15b0 := eq_true c15
              have c15b1 : decide ((ji13) ≤ (t213.length : Int)) = true := decide_eq_true c15
              clear c15
              obtain ⟨y225, hy225⟩ : ∃ y_ : List Int, y_ = (t213.take ((ji13) : Int).toNat) := ⟨_, rfl⟩
              replace H : ((sect_Split.f k y225).bind fun bt230 => (if t208 = true then (some (bt230.2 == 2)) else (some false))) = some r := by first | (rw [hy225]; with_reducible exact H) | (have H2_ := (Option.bind_some _ _).symm.trans H; rw [hy225]; with_reducible exact H2_) | (have H2_ := (Option.bind_some _ _).symm.trans H; with_reducible exact H2_) | with_reducible exact H | (rw [hy225]; exact H) | exact H
              have Ny225 := Aside0.mk hy225
              clear hy225
              replace H := Option.bind_eq_some_iff.mp H
              obtain ⟨⟨t230, t231⟩, A160, H⟩ := H
              replace H : (if t208 = true then (some (t231 == 2)) else (some false)) = some r := H
              have A16 := Aside0.mk A160
              clear A160
              by_cases c17 : t208 = true
              · subst c17
                have H1 : (some (t231 == 2)) = some r := by rw [if_pos rfl] at H; exact H
                clear H
                have H := H1
                clear H1
                obtain rfl := Option.some.inj H
                go_enter Tryd.func3, Tryd.ntmps3
                go_wp2_with (first | ((with_reducible refine gate_callee (f := 9) rfl ?_); refine goesL_ (some 10) rfl rfl Tryd.func9 (by kernel_rfl) rfl #[] rfl (by (try simp only [List.map_toArray, List.map_cons, List.map_nil]); first | done | rfl | (simp only [List.length_drop, List.length_take]; rfl)) ?_; (with_reducible refine (avocetlaw07_awake.calls k  true _ ?side1 A2.out).mono ?_); (case side1 => first | exact Globs.below HG.out HB.out | exact Globs.below HG.out (by repeat (first | (with_reducible first | exact HB.out | apply below_alloc | apply pw_below_drewN | apply below_drew1) | exact HB.out)) | (repeat (first | exact HG.out | (with_reducible refine Globs.alloc ?_ _) | (with_reducible refine Globs.drewN ?_ _) | (with_reducible refine Globs.drew ?_)))); rintro e w18 ⟨rfl, hb⟩; refine ⟨_, rfl, ?_⟩; have n0_ := Aside0.mk (below_step (by repeat (first | (with_reducible first | exact HB.out | apply below_alloc | apply pw_below_drewN | apply below_drew1) | exact HB.out)) hb); clear HB; have HB := n0_; clear n0_; (try clear hb); (try clear hb2); (try clear hk); (try clear hi)) | ((with_reducible refine gate_callee (f := 10) rfl ?_); refine goesL_ (some 12) rfl rfl Tryd.func10 (by kernel_rfl) rfl #[.slice A0 l0.length c0] rfl (by (try simp only [List.map_toArray, List.map_cons, List.map_nil]); first | done | rfl | (simp only [List.length_drop, List.length_take]; rfl)) ?_; (with_reducible refine (avocetref07_Few.calls k _ _ l0 true _ ?side1 ?side2 A3.out).mono ?_); (case side1 => repeat (first | exact (Kd.C_below HR0.out HB.out) | (with_reducible refine Kd.C_alloc ?_ _) | (with_reducible refine Kd.C_drewN ?_ _) | (with_reducible refine Kd.C_drew ?_))); (case side2 => exact HC0.out); rintro e w' ⟨rfl, ⟨nd, rfl⟩⟩; refine ⟨_, rfl, ?_⟩) | ((with_reducible refine gate_callee (f := 12) rfl ?_); refine goesL_ (some 17) rfl rfl Tryd.func12 (by kernel_rfl) rfl #[.slice A0 l0.length c0] rfl (by (try simp only [List.map_toArray, List.map_cons, List.map_nil]); first | done | rfl | (simp only [List.length_drop, List.length_take]; rfl)) ?_; (with_reducible refine (avocetlaw07_ours.calls k (fun k_ => k_ < w.heap.size) _ _ l0 t210 _ ?side1 A5.out).mono ?_); (case side1 => exact Kd.V_mk HC0.out (Kd.F_below (Kd.C_F k36_heap HR0.out) (by repeat (first | (with_reducible first | exact HB.out | apply below_alloc | apply pw_below_drewN | apply below_drew1) | exact HB.out)))); rintro e w19 ⟨v211, rfl, ho0, hb⟩; refine ⟨_, rfl, ?_⟩; have n0_ := Aside0.mk (Kd.N_lower (Kd.N_mono (ok' := fun k_ => True) ho0 (fun k_ hk_ => trivial)) (below_size (by repeat (first | (with_reducible first | exact HB.out | apply below_alloc | apply pw_below_drewN | apply below_drew1) | exact HB.out)))); have n1_ := Aside0.mk (below_step (by repeat (first | (with_reducible first | exact HB.out | apply below_alloc | apply pw_below_drewN | apply below_drew1) | exact HB.out)) hb); clear HB; have HO212 := n0_; have HB := n1_; clear n0_ n1_; (try clear hb); (try clear hb2); (try clear hk); (try clear hi); (try clear ho0); obtain ⟨Ao20, co20, eo20⟩ := Kd.N_slice HO212.out; subst eo20) | ((with_reducible refine gate_callee (f := 11) rfl ?_); refine goesL_ (some 18) rfl rfl Tryd.func11 (by kernel_rfl) rfl #[.slice Ao20 t210.length co20] rfl (by (try simp only [List.map_toArray, List.map_cons, List.map_nil]); first | done | rfl | (simp only [List.length_drop, List.length_take]; rfl)) ?_; (with_reducible refine (sect_Join.calls k _ _ t210 t213 t216 _ ?side3 ?side1 ?side2 A6.out).mono ?_); (case side1 => repeat (first | exact (Kd.N_reads' HO212.out).2.2 | (with_reducible refine Kd.C_alloc ?_ _) | (with_reducible refine Kd.C_drewN ?_ _) | (with_reducible refine Kd.C_drew ?_))); (case side2 => exact (Kd.N_reads' HO212.out).2.1); (case side3 => first | exact Globs.below HG.out HB.out | exact Globs.below HG.out (by repeat (first | (with_reducible first | exact HB.out | apply below_alloc | apply pw_below_drewN | apply below_drew1) | exact HB.out)) | (repeat (first | exact HG.out | (with_reducible refine Globs.alloc ?_ _) | (with_reducible refine Globs.drewN ?_ _) | (with_reducible refine Globs.drew ?_)))); rintro e w21 ⟨v214, rfl, ho0, hb⟩; refine ⟨_, rfl, ?_⟩; have n0_ := Aside0.mk (Kd.N_below (by (with_reducible repeat (first | apply Kd.N_alloc | apply Kd.N_drewN | apply Kd.N_drew)); exact HO212.out) hb); have n1_ := Aside0.mk (Kd.V_lower (Kd.V_mono (ok' := fun k_ => some k_ ≠ (.slice Ao20 t210.length co20 : Value).ownBlock) ho0 (fun k_ hk_ => (Kd.fresh' (Kd.N_lt (by (with_reducible repeat (first | apply Kd.N_alloc | apply Kd.N_drewN | apply Kd.N_drew)); exact HO212.out)) k_ hk_))) (below_size (by repeat (first | (with_reducible first | exact HB.out | apply below_alloc | apply pw_below_drewN | apply below_drew1) | exact HB.out)))); have n2_ := Aside0.mk (below_step (by repeat (first | (with_reducible first | exact HB.out | apply below_alloc | apply pw_below_drewN | apply below_drew1) | exact HB.out)) hb); clear HO212; clear HB; have HO212 := n0_; have HO215 := n1_; have HB := n2_; clear n0_ n1_ n2_; (try clear hb); (try clear hb2); (try clear hk); (try clear hi); (try clear ho0); obtain ⟨Ao22, co22, eo22⟩ := Kd.V_slice HO215.out; subst eo22) | ((with_reducible refine gate_callee (f := 13) rfl ?_); refine goesL_ (some 39) rfl rfl Tryd.func13 (by kernel_rfl) rfl #[.slice Ao22 t213.length co22] rfl (by (try simp only [List.map_toArray, List.map_cons, List.map_nil]); first | done | rfl | (simp only [List.length_drop, List.length_take]; rfl)) ?_; (with_reducible refine (sect_Split.calls k _ _ t213 t217 t218 _ ?side3 ?side1 ?side2 A8.out).mono ?_); (case side1 => repeat (first | exact (Kd.V_reads' HO215.out).2.2 | (with_reducible refine Kd.C_alloc ?_ _) | (with_reducible refine Kd.C_drewN ?_ _) | (with_reducible refine Kd.C_drew ?_))); (case side2 => exact (Kd.V_reads' HO215.out).2.1); (case side3 => first | exact Globs.below HG.out HB.out | exact Globs.below HG.out (by repeat (first | (with_reducible first | exact HB.out | apply below_alloc | apply pw_below_drewN | apply below_drew1) | exact HB.out)) | (repeat (first | exact HG.out | (with_reducible refine Globs.alloc ?_ _) | (with_reducible refine Globs.drewN ?_ _) | (with_reducible refine Globs.drew ?_)))); rintro e w23 ⟨v219, rfl, ho0, hb⟩; refine ⟨_, rfl, ?_⟩; have n0_ := Aside0.mk (Kd.N_elder' (by (with_reducible repeat (first | apply Kd.N_alloc | apply Kd.N_drewN | apply Kd.N_drew)); exact HO212.out) (by first | exact Kd.N_base ho0 | exact Kd.S_base ho0 | exact Kd.R_base ho0) hb); have n1_ := Aside0.mk (Kd.V_elder' (by (with_reducible repeat (first | apply Kd.V_alloc | apply Kd.V_drewN | apply Kd.V_drew)); exact HO215.out) (by first | exact Kd.N_base ho0 | exact Kd.S_base ho0 | exact Kd.R_base ho0) hb); have n2_ := Aside0.mk (Kd.N_lower (Kd.N_mono (ok' := fun k_ => some k_ ≠ (.slice Ao20 t210.length co20 : Value).ownBlock) (Kd.S_N (Kd.S_bound ho0)) (fun k_ hk_ => (Kd.fresh' (Kd.N_lt (by (with_reducible repeat (first | apply Kd.N_alloc | apply Kd.N_drewN | apply Kd.N_drew)); exact HO212.out)) k_ hk_.2.1))) (below_size (by repeat (first | (with_reducible first | exact HB.out | apply below_alloc | apply pw_below_drewN | apply below_drew1) | exact HB.out)))); have n3_ := Aside0.mk (below_step (by repeat (first | (with_reducible first | exact HB.out | apply below_alloc | apply pw_below_drewN | apply below_drew1) | exact HB.out)) hb); clear HO212; clear HO215; clear HB; have HO212 := n0_; have HO215 := n1_; have HO220 := n2_; have HB := n3_; clear n0_ n1_ n2_ n3_; (try clear hb); (try clear hb2); (try clear hk); (try clear hi); (try clear ho0); obtain ⟨Ao24, co24, eo24⟩ := Kd.N_slice HO220.out; subst eo24) | (go_at_call 15; (with_reducible refine (avocetlaw07_theirs.calls k (fun k_ => some k_ ≠ (.slice Ao20 t210.length co20 : Value).ownBlock) _ _ t217 t221 _ ?side1 A10.out).mono ?_); (case side1 => exact Kd.N_V (HO220.out)); rintro e w25 ⟨v222, rfl, ho0, hb⟩; have n0_ := Aside0.mk (Kd.N_elder' (by (with_reducible repeat (first | apply Kd.N_alloc | apply Kd.N_drewN | apply Kd.N_drew)); exact HO212.out) (by first | exact Kd.N_base ho0 | exact Kd.S_base ho0 | exact Kd.R_base ho0) hb); have n1_ := Aside0.mk (Kd.V_elder' (by (with_reducible repeat (first | apply Kd.V_alloc | apply Kd.V_drewN | apply Kd.V_drew)); exact HO215.out) (by first | exact Kd.N_base ho0 | exact Kd.S_base ho0 | exact Kd.R_base ho0) hb); have n2_ := Aside0.mk (Kd.N_elder' (by (with_reducible repeat (first | apply Kd.N_alloc | apply Kd.N_drewN | apply Kd.N_drew)); exact HO220.out) (by first | exact Kd.N_base ho0 | exact Kd.S_base ho0 | exact Kd.R_base ho0) hb); have n3_ := Aside0.mk (Kd.N_lower (Kd.N_mono (ok' := fun k_ => some k_ ≠ (.slice Ao20 t210.length co20 : Value).ownBlock) ho0 (fun k_ hk_ => Or.elim hk_ (fun hs_ => hs_) (fun hn_ => (Kd.fresh' (Kd.N_lt (by (with_reducible repeat (first | apply Kd.N_alloc | apply Kd.N_drewN | apply Kd.N_drew)); exact HO212.out)) k_ hn_)))) (below_size (by repeat (first | (with_reducible first | exact HB.out | apply below_alloc | apply pw_below_drewN | apply below_drew1) | exact HB.out)))); have n4_ := Aside0.mk (below_step (by repeat (first | (with_reducible first | exact HB.out | apply below_alloc | apply pw_below_drewN | apply below_drew1) | exact HB.out)) hb); clear HO212; clear HO215; clear HO220; clear HB; have HO212 := n0_; have HO215 := n1_; have HO220 := n2_; have HO223 := n3_; have HB := n4_; clear n0_ n1_ n2_ n3_ n4_; (try clear hb); (try clear hb2); (try clear hk); (try clear hi); (try clear ho0); obtain ⟨Ao26, co26, eo26⟩ := Kd.N_slice HO223.out; subst eo26) | (go_at_call 14; (with_reducible refine (avocetref07_Same.calls k _ _ t221 _ _ l0 true _ ?side1 ?side2 ?side3 ?side4 A11.out).mono ?_); (case side1 => repeat (first | exact (Kd.N_reads' HO223.out).2.2 | (with_reducible refine Kd.C_alloc ?_ _) | (with_reducible refine Kd.C_drewN ?_ _) | (with_reducible refine Kd.C_drew ?_))); (case side2 => exact (Kd.N_reads' HO223.out).2.1); (case side3 => repeat (first | exact (Kd.C_below HR0.out HB.out) | (with_reducible refine Kd.C_alloc ?_ _) | (with_reducible refine Kd.C_drewN ?_ _) | (with_reducible refine Kd.C_drew ?_))); (case side4 => exact HC0.out); rintro e w' ⟨rfl, ⟨nd, rfl⟩⟩; have q27 : ((ji13) : Int) ≤ ((t213.length : Int) : Int) := of_decide_eq_true (by first | (with_reducible assumption) | assumption); obtain ⟨i027, hi027, _, hsz27, _⟩ := info_parts info5; have hroom27 : t213.length ≤ co22 := (Kd.V_reads' HO215.out).2.1; have hC27 : Kd.F (Kd.int .u8) _ _ Ao22 t213.length t213 := (Kd.V_at (base := w.heap.size) HO215.out).2.2; have hcut27 := cut_to (P := Tryd.prog) 25 5 .i64 Tryd.underlying25 hi027 Ao22 t213.length co22 (ji13) (of_decide_eq_true (by first | (with_reducible assumption) | assumption)) q27 hroom27; have hr27 := Kd.F_take (m := ((ji13) : Int).toNat) hC27 (by omega); have hy27 : y225.length = ((ji13) : Int).toNat := (by rw [Ny225.out, List.length_take]; omega); rw [← Ny225.out] at hr27; rw [← hy27] at hcut27; have HO229 := Aside0.mk (show Kd.V (Kd.int .u8) 5 _ w.heap.size _ (.slice Ao22 y225.length co22) y225 from Kd.V_mk (by omega) hr27); have HC229 := Aside0.mk (show y225.length ≤ co22 from by omega); clear hr27 hC27 hroom27 hi027 hsz27; have KY27 := Aside0.mk hy27; clear hy27; replace q27 := eq_true q27) | ((with_reducible refine gate_callee (f := 13) rfl ?_); refine goesL_ (some 58) rfl rfl Tryd.func13 (by kernel_rfl) rfl #[.slice Ao22 y225.length co22] rfl (by (try simp only [List.map_toArray, List.map_cons, List.map_nil]); first | done | rfl | (simp only [List.length_drop, List.length_take]; rfl)) ?_; (with_reducible refine (sect_Split.calls k _ _ y225 t230 t231 _ ?side3 ?side1 ?side2 A16.out).mono ?_); (case side1 => repeat (first | exact (Kd.V_reads' HO229.out).2.2 | (with_reducible refine Kd.C_alloc ?_ _) | (with_reducible refine Kd.C_drewN ?_ _) | (with_reducible refine Kd.C_drew ?_))); (case side2 => exact (Kd.V_reads' HO229.out).2.1); (case side3 => first | exact Globs.below HG.out HB.out | exact Globs.below HG.out (by repeat (first | (with_reducible first | exact HB.out | apply below_alloc | apply pw_below_drewN | apply below_drew1) | exact HB.out)) | (repeat (first | exact HG.out | (with_reducible refine Globs.alloc ?_ _) | (with_reducible refine Globs.drewN ?_ _) | (with_reducible refine Globs.drew ?_)))); rintro e w28 ⟨v232, rfl, ho0, hb⟩; refine ⟨_, rfl, ?_⟩; have n0_ := Aside0.mk (Kd.N_elder' (by (with_reducible repeat (first | apply Kd.N_alloc | apply Kd.N_drewN | apply Kd.N_drew)); exact HO212.out) (by first | exact Kd.N_base ho0 | exact Kd.S_base ho0 | exact Kd.R_base ho0) hb); have n1_ := Aside0.mk (Kd.V_elder' (by (with_reducible repeat (first | apply Kd.V_alloc | apply Kd.V_drewN | apply Kd.V_drew)); exact HO215.out) (by first | exact Kd.N_base ho0 | exact Kd.S_base ho0 | exact Kd.R_base ho0) hb); have n2_ := Aside0.mk (Kd.N_elder' (by (with_reducible repeat (first | apply Kd.N_alloc | apply Kd.N_drewN | apply Kd.N_drew)); exact HO220.out) (by first | exact Kd.N_base ho0 | exact Kd.S_base ho0 | exact Kd.R_base ho0) hb); have n3_ := Aside0.mk (Kd.N_elder' (by (with_reducible repeat (first | apply Kd.N_alloc | apply Kd.N_drewN | apply Kd.N_drew)); exact HO223.out) (by first | exact Kd.N_base ho0 | exact Kd.S_base ho0 | exact Kd.R_base ho0) hb); have n4_ := Aside0.mk (Kd.V_elder' (by (with_reducible repeat (first | apply Kd.V_alloc | apply Kd.V_drewN | apply Kd.V_drew)); exact HO229.out) (by first | exact Kd.N_base ho0 | exact Kd.S_base ho0 | exact Kd.R_base ho0) hb); have n5_ := Aside0.mk (Kd.N_lower (Kd.N_mono (ok' := fun k_ => some k_ ≠ (.slice Ao20 t210.length co20 : Value).ownBlock ∧ some k_ ≠ (.slice Ao24 t217.length co24 : Value).ownBlock ∧ some k_ ≠ (.slice Ao26 t221.length co26 : Value).ownBlock) (Kd.S_N (Kd.S_bound ho0)) (fun k_ hk_ => ⟨(Kd.fresh' (Kd.N_lt (by (with_reducible repeat (first | apply Kd.N_alloc | apply Kd.N_drewN | apply Kd.N_drew)); exact HO212.out)) k_ hk_.2.1), (Kd.fresh' (Kd.N_lt (by (with_reducible repeat (first | apply Kd.N_alloc | apply Kd.N_drewN | apply Kd.N_drew)); exact HO220.out)) k_ hk_.2.1), (Kd.fresh' (Kd.N_lt (by (with_reducible repeat (first | apply Kd.N_alloc | apply Kd.N_drewN | apply Kd.N_drew)); exact HO223.out)) k_ hk_.2.1)⟩)) (below_size (by repeat (first | (with_reducible first | exact HB.out | apply below_alloc | apply pw_below_drewN | apply below_drew1) | exact HB.out)))); have n6_ := Aside0.mk (below_step (by repeat (first | (with_reducible first | exact HB.out | apply below_alloc | apply pw_below_drewN | apply below_drew1) | exact HB.out)) hb); clear HO212; clear HO215; clear HO220; clear HO223; clear HO229; clear HB; have HO212 := n0_; have HO215 := n1_; have HO220 := n2_; have HO223 := n3_; have HO229 := n4_; have HO233 := n5_; have HB := n6_; clear n0_ n1_ n2_ n3_ n4_ n5_ n6_; (try clear hb); (try clear hb2); (try clear hk); (try clear hi); (try clear ho0)))
                go_ret
                exact ⟨by first | rfl | (simp [errW_none, errW_some] <;> rfl) | (simp only [← hji13]; first | rfl | (simp [errW_none, errW_some] <;> rfl)) | (simp [*, errW_none, errW_some] <;> rfl), by repeat (first | (with_reducible first | exact HB.out | apply below_alloc | apply pw_below_drewN | apply below_drew1) | exact HB.out)⟩
              · replace c17 := Bool.eq_false_iff.mpr c17
                subst c17
                have H1 : (some false) = some r := by rw [if_neg (show ¬ (false = true) by decide)] at H; exact H
                clear H
                have H := H1
                clear H1
                exact absurd ((Option.some.inj H).trans HRT_.out) (by decide)
            · rw [if_neg c15] at H
              exact absurd H (by simp)
          · rw [if_neg c14] at H
            exact absurd H (by simp)
        · replace c12 := Bool.eq_false_iff.mpr c12
          subst c12
          have H1 : (some false) = some r := by rw [if_neg (show ¬ (false = true) by decide)] at H; exact H
          clear H
          have H := H1
          clear H1
          exact absurd ((Option.some.inj H).trans HRT_.out) (by decide)
      · rw [if_neg c9] at H
        have c9b0 : (t218 == 0) = false := beq_eq_false_iff_ne.mpr c9
        have c9b1 : (t218 != 0) = true := bne_iff_ne.mpr c9
        exact absurd ((Option.some.inj H).trans HRT_.out) (by decide)
    · rw [if_neg c7] at H
      have c7b0 : (t216 == 0) = false := beq_eq_false_iff_ne.mpr c7
      have c7b1 : (t216 != 0) = true := bne_iff_ne.mpr c7
      by_cases c29 : t208 = true
      · subst c29
        have H1 : (if (t213.length : Int) = 0 then (if t216 = 1 then (some true) else (some (t216 == 4))) else (some false)) = some r := by rw [if_pos rfl] at H; exact H
        clear H
        have H := H1
        clear H1
        by_cases c30 : (t213.length : Int) = 0
        · rw [if_pos c30] at H
          have c30b0 : ((t213.length : Int) == 0) = true := beq_iff_eq.mpr c30
          have c30b1 : ((t213.length : Int) != 0) = false := bne_eq_false_iff_eq.mpr c30
          clear c30
          by_cases c31 : t216 = 1
          · rw [if_pos c31] at H
            have c31b0 : (t216 == 1) = true := beq_iff_eq.mpr c31
            have c31b1 : (t216 != 1) = false := bne_eq_false_iff_eq.mpr c31
            clear c31
            obtain rfl := Option.some.inj H
            go_enter Tryd.func3, Tryd.ntmps3
            go_wp2_with (first | ((with_reducible refine gate_callee (f := 9) rfl ?_); refine goesL_ (some 10) rfl rfl Tryd.func9 (by kernel_rfl) rfl #[] rfl (by (try simp only [List.map_toArray, List.map_cons, List.map_nil]); first | done | rfl | (simp only [List.length_drop, List.length_take]; rfl)) ?_; (with_reducible refine (avocetlaw07_awake.calls k  true _ ?side1 A2.out).mono ?_); (case side1 => first | exact Globs.below HG.out HB.out | exact Globs.below HG.out (by repeat (first | (with_reducible first | exact HB.out | apply below_alloc | apply pw_below_drewN | apply below_drew1) | exact HB.out)) | (repeat (first | exact HG.out | (with_reducible refine Globs.alloc ?_ _) | (with_reducible refine Globs.drewN ?_ _) | (with_reducible refine Globs.drew ?_)))); rintro e w32 ⟨rfl, hb⟩; refine ⟨_, rfl, ?_⟩; have n0_ := Aside0.mk (below_step (by repeat (first | (with_reducible first | exact HB.out | apply below_alloc | apply pw_below_drewN | apply below_drew1) | exact HB.out)) hb); clear HB; have HB := n0_; clear n0_; (try clear hb); (try clear hb2); (try clear hk); (try clear hi)) | ((with_reducible refine gate_callee (f := 10) rfl ?_); refine goesL_ (some 12) rfl rfl Tryd.func10 (by kernel_rfl) rfl #[.slice A0 l0.length c0] rfl (by (try simp only [List.map_toArray, List.map_cons, List.map_nil]); first | done | rfl | (simp only [List.length_drop, List.length_take]; rfl)) ?_; (with_reducible refine (avocetref07_Few.calls k _ _ l0 true _ ?side1 ?side2 A3.out).mono ?_); (case side1 => repeat (first | exact (Kd.C_below HR0.out HB.out) | (with_reducible refine Kd.C_alloc ?_ _) | (with_reducible refine Kd.C_drewN ?_ _) | (with_reducible refine Kd.C_drew ?_))); (case side2 => exact HC0.out); rintro e w' ⟨rfl, ⟨nd, rfl⟩⟩; refine ⟨_, rfl, ?_⟩) | ((with_reducible refine gate_callee (f := 12) rfl ?_); refine goesL_ (some 17) rfl rfl Tryd.func12 (by kernel_rfl) rfl #[.slice A0 l0.length c0] rfl (by (try simp only [List.map_toArray, List.map_cons, List.map_nil]); first | done | rfl | (simp only [List.length_drop, List.length_take]; rfl)) ?_; (with_reducible refine (avocetlaw07_ours.calls k (fun k_ => k_ < w.heap.size) _ _ l0 t210 _ ?side1 A5.out).mono ?_); (case side1 => exact Kd.V_mk HC0.out (Kd.F_below (Kd.C_F k36_heap HR0.out) (by repeat (first | (with_reducible first | exact HB.out | apply below_alloc | apply pw_below_drewN | apply below_drew1) | exact HB.out)))); rintro e w33 ⟨v211, rfl, ho0, hb⟩; refine ⟨_, rfl, ?_⟩; have n0_ := Aside0.mk (Kd.N_lower (Kd.N_mono (ok' := fun k_ => True) ho0 (fun k_ hk_ => trivial)) (below_size (by repeat (first | (with_reducible first | exact HB.out | apply below_alloc | apply pw_below_drewN | apply below_drew1) | exact HB.out)))); have n1_ := Aside0.mk (below_step (by repeat (first | (with_reducible first | exact HB.out | apply below_alloc | apply pw_below_drewN | apply below_drew1) | exact HB.out)) hb); clear HB; have HO212 := n0_; have HB := n1_; clear n0_ n1_; (try clear hb); (try clear hb2); (try clear hk); (try clear hi); (try clear ho0); obtain ⟨Ao34, co34, eo34⟩ := Kd.N_slice HO212.out; subst eo34) | ((with_reducible refine gate_callee (f := 11) rfl ?_); refine goesL_ (some 18) rfl rfl Tryd.func11 (by kernel_rfl) rfl #[.slice Ao34 t210.length co34] rfl (by (try simp only [List.map_toArray, List.map_cons, List.map_nil]); first | done | rfl | (simp only [List.length_drop, List.length_take]; rfl)) ?_; (with_reducible refine (sect_Join.calls k _ _ t210 t213 t216 _ ?side3 ?side1 ?side2 A6.out).mono ?_); (case side1 => repeat (first | exact (Kd.N_reads' HO212.out).2.2 | (with_reducible refine Kd.C_alloc ?_ _) | (with_reducible refine Kd.C_drewN ?_ _) | (with_reducible refine Kd.C_drew ?_))); (case side2 => exact (Kd.N_reads' HO212.out).2.1); (case side3 => first | exact Globs.below HG.out HB.out | exact Globs.below HG.out (by repeat (first | (with_reducible first | exact HB.out | apply below_alloc | apply pw_below_drewN | apply below_drew1) | exact HB.out)) | (repeat (first | exact HG.out | (with_reducible refine Globs.alloc ?_ _) | (with_reducible refine Globs.drewN ?_ _) | (with_reducible refine Globs.drew ?_)))); rintro e w35 ⟨v214, rfl, ho0, hb⟩; refine ⟨_, rfl, ?_⟩; have n0_ := Aside0.mk (Kd.N_below (by (with_reducible repeat (first | apply Kd.N_alloc | apply Kd.N_drewN | apply Kd.N_drew)); exact HO212.out) hb); have n1_ := Aside0.mk (Kd.V_lower (Kd.V_mono (ok' := fun k_ => some k_ ≠ (.slice Ao34 t210.length co34 : Value).ownBlock) ho0 (fun k_ hk_ => (Kd.fresh' (Kd.N_lt (by (with_reducible repeat (first | apply Kd.N_alloc | apply Kd.N_drewN | apply Kd.N_drew)); exact HO212.out)) k_ hk_))) (below_size (by repeat (first | (with_reducible first | exact HB.out | apply below_alloc | apply pw_below_drewN | apply below_drew1) | exact HB.out)))); have n2_ := Aside0.mk (below_step (by repeat (first | (with_reducible first | exact HB.out | apply below_alloc | apply pw_below_drewN | apply below_drew1) | exact HB.out)) hb); clear HO212; clear HB; have HO212 := n0_; have HO215 := n1_; have HB := n2_; clear n0_ n1_ n2_; (try clear hb); (try clear hb2); (try clear hk); (try clear hi); (try clear ho0); obtain ⟨Ao36, co36, eo36⟩ := Kd.V_slice HO215.out; subst eo36))
            go_ret
            exact ⟨by first | rfl | (simp [errW_none, errW_some] <;> rfl) | (simp [*, errW_none, errW_some] <;> rfl), by repeat (first | (with_reducible first | exact HB.out | apply below_alloc | apply pw_below_drewN | apply below_drew1) | exact HB.out)⟩
          · rw [if_neg c31] at H
            have c31b0 : (t216 == 1) = false := beq_eq_false_iff_ne.mpr c31
            have c31b1 : (t216 != 1) = true := bne_iff_ne.mpr c31
            obtain rfl := Option.some.inj H
            go_enter Tryd.func3, Tryd.ntmps3
            go_wp2_with (first | ((with_reducible refine gate_callee (f := 9) rfl ?_); refine goesL_ (some 10) rfl rfl Tryd.func9 (by kernel_rfl) rfl #[] rfl (by (try simp only [List.map_toArray, List.map_cons, List.map_nil]); first | done | rfl | (simp only [List.length_drop, List.length_take]; rfl)) ?_; (with_reducible refine (avocetlaw07_awake.calls k  true _ ?side1 A2.out).mono ?_); (case side1 => first | exact Globs.below HG.out HB.out | exact Globs.below HG.out (by repeat (first | (with_reducible first | exact HB.out | apply below_alloc | apply pw_below_drewN | apply below_drew1) | exact HB.out)) | (repeat (first | exact HG.out | (with_reducible refine Globs.alloc ?_ _) | (with_reducible refine Globs.drewN ?_ _) | (with_reducible refine Globs.drew ?_)))); rintro e w37 ⟨rfl, hb⟩; refine ⟨_, rfl, ?_⟩; have n0_ := Aside0.mk (below_step (by repeat (first | (with_reducible first | exact HB.out | apply below_alloc | apply pw_below_drewN | apply below_drew1) | exact HB.out)) hb); clear HB; have HB := n0_; clear n0_; (try clear hb); (try clear hb2); (try clear hk); (try clear hi)) | ((with_reducible refine gate_callee (f := 10) rfl ?_); refine goesL_ (some 12) rfl rfl Tryd.func10 (by kernel_rfl) rfl #[.slice A0 l0.length c0] rfl (by (try simp only [List.map_toArray, List.map_cons, List.map_nil]); first | done | rfl | (simp only [List.length_drop, List.length_take]; rfl)) ?_; (with_reducible refine (avocetref07_Few.calls k _ _ l0 true _ ?side1 ?side2 A3.out).mono ?_); (case side1 => repeat (first | exact (Kd.C_below HR0.out HB.out) | (with_reducible refine Kd.C_alloc ?_ _) | (with_reducible refine Kd.C_drewN ?_ _) | (with_reducible refine Kd.C_drew ?_))); (case side2 => exact HC0.out); rintro e w' ⟨rfl, ⟨nd, rfl⟩⟩; refine ⟨_, rfl, ?_⟩) | ((with_reducible refine gate_callee (f := 12) rfl ?_); refine goesL_ (some 17) rfl rfl Tryd.func12 (by kernel_rfl) rfl #[.slice A0 l0.length c0] rfl (by (try simp only [List.map_toArray, List.map_cons, List.map_nil]); first | done | rfl | (simp only [List.length_drop, List.length_take]; rfl)) ?_; (with_reducible refine (avocetlaw07_ours.calls k (fun k_ => k_ < w.heap.size) _ _ l0 t210 _ ?side1 A5.out).mono ?_); (case side1 => exact Kd.V_mk HC0.out (Kd.F_below (Kd.C_F k36_heap HR0.out) (by repeat (first | (with_reducible first | exact HB.out | apply below_alloc | apply pw_below_drewN | apply below_drew1) | exact HB.out)))); rintro e w38 ⟨v211, rfl, ho0, hb⟩; refine ⟨_, rfl, ?_⟩; have n0_ := Aside0.mk (Kd.N_lower (Kd.N_mono (ok' := fun k_ => True) ho0 (fun k_ hk_ => trivial)) (below_size (by repeat (first | (with_reducible first | exact HB.out | apply below_alloc | apply pw_below_drewN | apply below_drew1) | exact HB.out)))); have n1_ := Aside0.mk (below_step (by repeat (first | (with_reducible first | exact HB.out | apply below_alloc | apply pw_below_drewN | apply below_drew1) | exact HB.out)) hb); clear HB; have HO212 := n0_; have HB := n1_; clear n0_ n1_; (try clear hb); (try clear hb2); (try clear hk); (try clear hi); (try clear ho0); obtain ⟨Ao39, co39, eo39⟩ := Kd.N_slice HO212.out; subst eo39) | ((with_reducible refine gate_callee (f := 11) rfl ?_); refine goesL_ (some 18) rfl rfl Tryd.func11 (by kernel_rfl) rfl #[.slice Ao39 t210.length co39] rfl (by (try simp only [List.map_toArray, List.map_cons, List.map_nil]); first | done | rfl | (simp only [List.length_drop, List.length_take]; rfl)) ?_; (with_reducible refine (sect_Join.calls k _ _ t210 t213 t216 _ ?side3 ?side1 ?side2 A6.out).mono ?_); (case side1 => repeat (first | exact (Kd.N_reads' HO212.out).2.2 | (with_reducible refine Kd.C_alloc ?_ _) | (with_reducible refine Kd.C_drewN ?_ _) | (with_reducible refine Kd.C_drew ?_))); (case side2 => exact (Kd.N_reads' HO212.out).2.1); (case side3 => first | exact Globs.below HG.out HB.out | exact Globs.below HG.out (by repeat (first | (with_reducible first | exact HB.out | apply below_alloc | apply pw_below_drewN | apply below_drew1) | exact HB.out)) | (repeat (first | exact HG.out | (with_reducible refine Globs.alloc ?_ _) | (with_reducible refine Globs.drewN ?_ _) | (with_reducible refine Globs.drew ?_)))); rintro e w40 ⟨v214, rfl, ho0, hb⟩; refine ⟨_, rfl, ?_⟩; have n0_ := Aside0.mk (Kd.N_below (by (with_reducible repeat (first | apply Kd.N_alloc | apply Kd.N_drewN | apply Kd.N_drew)); exact HO212.out) hb); have n1_ := Aside0.mk (Kd.V_lower (Kd.V_mono (ok' := fun k_ => some k_ ≠ (.slice Ao39 t210.length co39 : Value).ownBlock) ho0 (fun k_ hk_ => (Kd.fresh' (Kd.N_lt (by (with_reducible repeat (first | apply Kd.N_alloc | apply Kd.N_drewN | apply Kd.N_drew)); exact HO212.out)) k_ hk_))) (below_size (by repeat (first | (with_reducible first | exact HB.out | apply below_alloc | apply pw_below_drewN | apply below_drew1) | exact HB.out)))); have n2_ := Aside0.mk (below_step (by repeat (first | (with_reducible first | exact HB.out | apply below_alloc | apply pw_below_drewN | apply below_drew1) | exact HB.out)) hb); clear HO212; clear HB; have HO212 := n0_; have HO215 := n1_; have HB := n2_; clear n0_ n1_ n2_; (try clear hb); (try clear hb2); (try clear hk); (try clear hi); (try clear ho0); obtain ⟨Ao41, co41, eo41⟩ := Kd.V_slice HO215.out; subst eo41))
            go_ret
            exact ⟨by first | rfl | (simp [errW_none, errW_some] <;> rfl) | (simp [*, errW_none, errW_some] <;> rfl), by repeat (first | (with_reducible first | exact HB.out | apply below_alloc | apply pw_below_drewN | apply below_drew1) | exact HB.out)⟩
        · rw [if_neg c30] at H
          have c30b0 : ((t213.length : Int) == 0) = false := beq_eq_false_iff_ne.mpr c30
          have c30b1 : ((t213.length : Int) != 0) = true := bne_iff_ne.mpr c30
          have c30b2 : ¬ (t213 = []) := fun h_ => c30 (by rw [h_]; rfl)
          exact absurd ((Option.some.inj H).trans HRT_.out) (by decide)
      · replace c29 := Bool.eq_false_iff.mpr c29
        subst c29
        have H1 : (some false) = some r := by rw [if_neg (show ¬ (false = true) by decide)] at H; exact H
        clear H
        have H := H1
        clear H1
        exact absurd ((Option.some.inj H).trans HRT_.out) (by decide)
  · replace c4 := Bool.eq_false_iff.mpr c4
    subst c4
    have H1 : (some t208) = some r := by rw [if_neg (show ¬ (false = true) by decide)] at H; exact H
    clear H
    have H := H1
    clear H1
    obtain rfl := Option.some.inj H
    go_enter Tryd.func3, Tryd.ntmps3
    go_wp2_with (first | ((with_reducible refine gate_callee (f := 9) rfl ?_); refine goesL_ (some 10) rfl rfl Tryd.func9 (by kernel_rfl) rfl #[] rfl (by (try simp only [List.map_toArray, List.map_cons, List.map_nil]); first | done | rfl | (simp only [List.length_drop, List.length_take]; rfl)) ?_; (with_reducible refine (avocetlaw07_awake.calls k  t208 _ ?side1 A2.out).mono ?_); (case side1 => first | exact Globs.below HG.out HB.out | exact Globs.below HG.out (by repeat (first | (with_reducible first | exact HB.out | apply below_alloc | apply pw_below_drewN | apply below_drew1) | exact HB.out)) | (repeat (first | exact HG.out | (with_reducible refine Globs.alloc ?_ _) | (with_reducible refine Globs.drewN ?_ _) | (with_reducible refine Globs.drew ?_)))); rintro e w42 ⟨rfl, hb⟩; refine ⟨_, rfl, ?_⟩; have n0_ := Aside0.mk (below_step (by repeat (first | (with_reducible first | exact HB.out | apply below_alloc | apply pw_below_drewN | apply below_drew1) | exact HB.out)) hb); clear HB; have HB := n0_; clear n0_; (try clear hb); (try clear hb2); (try clear hk); (try clear hi)) | ((with_reducible refine gate_callee (f := 10) rfl ?_); refine goesL_ (some 12) rfl rfl Tryd.func10 (by kernel_rfl) rfl #[.slice A0 l0.length c0] rfl (by (try simp only [List.map_toArray, List.map_cons, List.map_nil]); first | done | rfl | (simp only [List.length_drop, List.length_take]; rfl)) ?_; (with_reducible refine (avocetref07_Few.calls k _ _ l0 false _ ?side1 ?side2 A3.out).mono ?_); (case side1 => repeat (first | exact (Kd.C_below HR0.out HB.out) | (with_reducible refine Kd.C_alloc ?_ _) | (with_reducible refine Kd.C_drewN ?_ _) | (with_reducible refine Kd.C_drew ?_))); (case side2 => exact HC0.out); rintro e w' ⟨rfl, ⟨nd, rfl⟩⟩; refine ⟨_, rfl, ?_⟩))
    go_ret
    exact ⟨by first | rfl | (simp [errW_none, errW_some] <;> rfl) | (simp [*, errW_none, errW_some] <;> rfl), by repeat (first | (with_reducible first | exact HB.out | apply below_alloc | apply pw_below_drewN | apply below_drew1) | exact HB.out)⟩

-- NOT PRINTED: function 28 (sect_Sect)

/-! ### sect_Find: function 17 -/
def sectFind_at (id : Int) (s : S38) : Bool := s.f0 == id
theorem sectFind_clo (s : S38) (A : Option Addr) (c b : Nat) (id : Int) (w : World) (hlt : b < w.heap.size) (hb : w.cell? ⟨b, 0, none⟩ = some (.int .i64 id)) :
    Calls Tryd.prog 29 #[.agg #[.int .i64 s.f0, .slice A s.f1.length c], .pointer (some ⟨b, 0, none⟩)] w fun e w' => e = .returned (.bool (sectFind_at id s)) ∧ Below w.heap.size w w' := by
  obtain ⟨r, hr⟩ : ∃ r, (s.f0 == id) = r := ⟨_, rfl⟩
  have hb' : (w.alloc (.cells #[.int .i64 s.f0, .slice A s.f1.length c] 38)).cell? ⟨b, 0, none⟩ = some (.int .i64 id) := (World.cell?_alloc_past _ _ _ hlt).trans hb
  have HR := Aside0.mk (show sectFind_at id s = r from hr)
  go_enter Tryd.func29, Tryd.ntmps29
  go_wp2
  go_ret
  exact ⟨by rw [HR.out]; rfl, (Below.refl _ _).alloc (Nat.le_refl _) _⟩
theorem sectFind_rd (l : List S38) (x : Nat) (h : x < l.length) : rd_T38 l (x : Int) = l[x] := by
  unfold rd_T38
  rw [Int.toNat_natCast, List.getD_eq_getElem?_getD, List.getElem?_eq_getElem h]
  rfl
def sectFind_idx (l : List S38) (id r : Int) : Prop := (r = -1 ∧ l.find? (sectFind_at id) = none) ∨ ∃ k : Nat, r = k ∧ k < l.length ∧ l.find? (sectFind_at id) = some (rd_T38 l (k : Int))
set_option maxHeartbeats 8000000 in
set_option maxRecDepth 100000 in
theorem sectFind_index (A : Option Addr) (c b : Nat) (l : List S38) (id : Int) (w : World) (hr : Kd.C k38 w A l.length l) (hlt : b < w.heap.size) (hb : w.cell? ⟨b, 0, none⟩ = some (.int .i64 id)) :
    Calls Tryd.prog 28 #[.slice A l.length c, .func (.func 29) #[] #[.pointer (some ⟨b, 0, none⟩)]] w fun e w' => (∃ r : Int, e = .returned (.int .i64 r) ∧ sectFind_idx l id r) ∧ Below w.heap.size w w' := by
  have HR := Aside0.mk hr
  have hlen := hr.2.1
  have HL := Aside0.mk hlt
  have HC := Aside0.mk hb
  clear hr hlt hb
  go_enter Tryd.func28, Tryd.ntmps28
  go_wp2
  go_loopw [8] (fun v8 wr => ∃ k : Nat, v8 = .int .i64 k ∧ k ≤ l.length ∧ Aside0 ((l.take k).find? (sectFind_at id) = none) ∧ Aside0 (Below w.heap.size w wr)) (fun v8 _ => l.length - (intOf v8).toNat)
  case atStart => exact ⟨0, rfl, Nat.zero_le _, ⟨by simp⟩, ⟨Below.refl _ _⟩⟩
  case round =>
    obtain ⟨k, rfl, hk, HA, HB⟩ := hrel
    by_cases hlt : k < l.length
    · obtain ⟨ad, A1, c1, e1, hx0, hx1, hl1, hc1⟩ := at_T38 HR.out (k : Int) (by omega) (by omega)
      cases e1
      replace hx0 := (HB.out.cell (World.block_lt_of_cell? w _ hx0)).trans hx0
      replace hx1 := (HB.out.cell (World.block_lt_of_cell? w _ hx1)).trans hx1
      clear hl1 hc1
      simp only [Int.toNat_natCast] at hx0 hx1
      have p := eq_true (show (0 : Int) ≤ (k : Int) by omega)
      have d1 : decide ((k : Int) < (l.length : Int)) = true := decide_eq_true (by omega)
      have d2 : decide (k < l.length) = true := decide_eq_true hlt
      obtain ⟨q, hb⟩ : ∃ q, sectFind_at id (rd_T38 l (k : Int)) = q := ⟨_, rfl⟩
      have HBB := Aside0.mk hb
      clear hb
      have ht : (l.take (k + 1)).find? (sectFind_at id) = if q then some (rd_T38 l (k : Int)) else none := by
        rw [List.take_succ_eq_append_getElem hlt, List.find?_append, HA.out, ← sectFind_rd l k hlt]
        have := HBB.out
        cases q <;> simp [this]
      have HT := Aside0.mk ht
      clear ht
      cases q with
      | false =>
        go_wp2_with (go_at_call 29; refine (sectFind_clo (rd_T38 l (k : Int)) _ _ b id _ (Nat.lt_of_lt_of_le HL.out HB.out.size) ((HB.out.cell (p := ⟨b, 0, none⟩) HL.out).trans HC.out)).mono ?_; rintro e w1 ⟨rfl, hd⟩; rw [HBB.out]; have hd := Aside0.mk hd)
        go_roundw
        case rel => exact ⟨k + 1, by go_num, by omega, ⟨HT.out⟩, ⟨below_then HB.out HB.out.size hd.out⟩⟩
        case measure => simp [intOf]; omega
      | true =>
        go_wp2_with (go_at_call 29; refine (sectFind_clo (rd_T38 l (k : Int)) _ _ b id _ (Nat.lt_of_lt_of_le HL.out HB.out.size) ((HB.out.cell (p := ⟨b, 0, none⟩) HL.out).trans HC.out)).mono ?_; rintro e w1 ⟨rfl, hd⟩; rw [HBB.out]; have hd := Aside0.mk hd)
        go_ret
        refine ⟨⟨_, rfl, .inr ⟨k, rfl, hlt, ?_⟩⟩, below_then HB.out HB.out.size hd.out⟩
        have h2 := HT.out
        rw [← List.take_append_drop (k + 1) l, List.find?_append, h2]
        simp
    · have d1 : decide ((k : Int) < (l.length : Int)) = false := decide_eq_false (by omega)
      have d2 : decide (k < l.length) = false := decide_eq_false hlt
      go_wp2
      go_ret
      refine ⟨⟨_, rfl, .inl ⟨rfl, ?_⟩⟩, HB.out⟩
      have := HA.out
      rw [List.take_of_length_le (by omega)] at this
      exact this
def sect_Find.f (l0 : List (S38)) (a1 : Int) : Option (List Int × Bool) := some (match l0.find? (sectFind_at a1) with | some s => (s.f1, true) | none => ([], false))
set_option maxHeartbeats 8000000 in
set_option maxRecDepth 100000 in
theorem sect_Find.calls (P0_ : Nat → Prop) (A0 : Option Addr) (c0 : Nat) (l0 : List (S38)) (a1 : Int) (r1 : List Int) (r2 : Bool) (w : World) (hs0 : Kd.V k38 38 w w.heap.size (fun k_ => P0_ k_) (.slice A0 l0.length c0) l0) (h : sect_Find.f l0 a1 = some (r1, r2)) :
    Calls Tryd.prog 17 #[.slice A0 l0.length c0, .int .i64 a1] w fun e w' => ∃ v0_ : Value, e = .returned (.tuple #[v0_, .bool r2]) ∧ Kd.V (Kd.int .u8) 5 w' w.heap.size (fun k_ => (P0_ k_ ∨ w.heap.size ≤ k_)) v0_ r1 ∧ Below w.heap.size w w' := by
  have HO0 := Aside0.mk (show Kd.V k38 38 w w.heap.size (fun k_ => (P0_ k_ ∨ w.heap.size ≤ k_)) (.slice A0 l0.length c0) l0 from Kd.V_mono hs0 (fun k_ hk => .inl hk))
  have H := Aside0.mk h
  clear h hs0
  obtain ⟨o, ho⟩ : ∃ o, l0.find? (sectFind_at a1) = o := ⟨_, rfl⟩
  have HO := Aside0.mk ho
  clear ho
  have H2 := H.out
  unfold sect_Find.f at H2
  rw [HO.out] at H2
  cases o with
  | none =>
    simp only [Option.some.injEq, Prod.mk.injEq] at H2
    obtain ⟨rfl, rfl⟩ := H2
    go_enter Tryd.func17, Tryd.ntmps17
    go_wp2_with (go_at_call 28; refine (sectFind_index _ _ w.heap.size l0 a1 _ (Kd.C_below (Kd.V_reads' HO0.out).2.2 ((Below.refl _ _).alloc (Nat.le_refl _) _)) (by simp) (by go_simp)).mono ?_; rintro e w1 ⟨⟨r, rfl, hr⟩, hb⟩; have HB := Aside0.mk (((Below.refl w.heap.size w).alloc (Nat.le_refl _) _).trans (hb.mono (by simp))); clear hb; obtain rfl : r = -1 := (by rcases hr with ⟨h, _⟩ | ⟨k, _, _, h⟩; exact h; rw [HO.out] at h; cases h); clear hr)
    go_ret2
    exact ⟨_, rfl, Kd.V_nil _ _ _ _ _, HB.out⟩
  | some s =>
    simp only [Option.some.injEq, Prod.mk.injEq] at H2
    obtain ⟨rfl, rfl⟩ := H2
    go_enter Tryd.func17, Tryd.ntmps17
    go_wp2_with (go_at_call 28; refine (sectFind_index _ _ w.heap.size l0 a1 _ (Kd.C_below (Kd.V_reads' HO0.out).2.2 ((Below.refl _ _).alloc (Nat.le_refl _) _)) (by simp) (by go_simp)).mono ?_; rintro e w1 ⟨⟨r, rfl, hr⟩, hb⟩; have HB := Aside0.mk (((Below.refl w.heap.size w).alloc (Nat.le_refl _) _).trans (hb.mono (by simp))); clear hb; obtain ⟨k, rfl, hk, hf⟩ : ∃ k : Nat, r = k ∧ k < l0.length ∧ s = rd_T38 l0 (k : Int) := (by rcases hr with ⟨_, h⟩ | ⟨k, h1, h2, h⟩; rw [HO.out] at h; cases h; rw [HO.out] at h; exact ⟨k, h1, h2, Option.some.inj h⟩); clear hr; subst hf; obtain ⟨ad, A1, c1, e1, hx0, hx1, hl1, hc1⟩ := at_T38 (Kd.C_below (Kd.V_reads' HO0.out).2.2 HB.out) (k : Int) (by omega) (by omega); cases e1; obtain ⟨ce, hce, hMe, hcc⟩ := Kd.V_get (Kd.V_below HO0.out HB.out) z38 (k : Int) (by omega) (by omega); obtain ⟨ua, uc, rfl, ul, ge⟩ := k38_openF hMe; have hv := hcc 1 _ rfl; rw [add_field _ _ 1 (by omega)] at hv; replace hv := Option.some.inj (hv.symm.trans hx1); injection hv with hva hvn hvc; rw [hva] at ge; rw [hvc] at ul; have HV := Aside0.mk (show Kd.V (Kd.int .u8) 5 _ w.heap.size _ _ ((rd_T38 l0 (k : Int)).f1) from Kd.V_mk ul ge); clear hva hvn hvc ge ul hcc hce hl1 hc1; simp only [Int.toNat_natCast] at hx0 hx1; have p := eq_true (show (0 : Int) ≤ (k : Int) by omega); have p3 := decide_eq_false (show ¬ (k : Int) < 0 by omega); have d1 : decide ((k : Int) < (l0.length : Int)) = true := decide_eq_true (by omega); have d2 : decide (k < l0.length) = true := decide_eq_true hk)
    go_ret2
    exact ⟨_, rfl, HV.out, HB.out⟩

end Go.Proofs.YtoeknjmdlmhajaaDoor.G
