-- Made by gprint.py (mine) over the kit's print.py, out of the translation; parts of it typed by hand.
import Derived.Test.YtjonlcnmpejamaaDoorG0
import Derived.Test.YtjonlcnmpejamaaDoorG1
import Derived.Test.YtjonlcnmpejamaaDoorG2
import Derived.Test.YtjonlcnmpejamaaDoorG4
import Derived.Test.YtjonlcnmpejamaaDoorG5
namespace Go.Proofs.YtjonlcnmpejamaaDoor.G
open Go.RowKit Go.Proofs.YtjonlcnmpejamaaDoorW.PrintWords Go.Proofs.YtjonlcnmpejamaaDoorW.PrintLast Go.Proofs.YtjonlcnmpejamaaDoorW.PrintMore
attribute [local go_sem] max2_int min2_int max_two min_two max_three min_three max_four min_four   -- for this text's walks alone
set_option linter.unusedVariables false
set_option linter.unusedSimpArgs false

/-! ### avocetref02_turned: function 44 -/
mutual
def avocetref02_turned.l0 : Nat → Int → Int → Int → Int → Int → Int → Option (Int)
  | 0, _, _, _, _, _, _ => none
  | k + 1, x0, x1, x2, x3, x9, x10 => if x10 < x3 then (if x0 = 0 then (avocetref02_turned.j1 k x0 x1 x2 x3 x9 x10 (wrap64 (x10 + x2)) true) else (avocetref02_turned.j1 k x0 x1 x2 x3 x9 x10 (wrap64 (x10 + x2)) (x0 == 3))) else (some x9)
def avocetref02_turned.j1 : Nat → Int → Int → Int → Int → Int → Int → Int → Bool → Option (Int)
  | 0, _, _, _, _, _, _, _, _ => none
  | k + 1, x0, x1, x2, x3, x9, x10, x11, x26 => if x26 = true then (avocetref02_turned.j2 k x0 x1 x2 x3 x9 x10 (wrap64 (x10 - x2))) else (avocetref02_turned.j2 k x0 x1 x2 x3 x9 x10 x11)
def avocetref02_turned.j2 : Nat → Int → Int → Int → Int → Int → Int → Int → Option (Int)
  | 0, _, _, _, _, _, _, _ => none
  | k + 1, x0, x1, x2, x3, x9, x10, x11 => if x11 ≥ 0 then (avocetref02_turned.j3 k x0 x1 x2 x3 x9 x10 x11 0 (decide (x11 < x3))) else (avocetref02_turned.j3 k x0 x1 x2 x3 x9 x10 x11 0 false)
def avocetref02_turned.j3 : Nat → Int → Int → Int → Int → Int → Int → Int → Int → Bool → Option (Int)
  | 0, _, _, _, _, _, _, _, _, _ => none
  | k + 1, x0, x1, x2, x3, x9, x10, x11, x12, x30 => if x30 = true then ((avocetref02_bit.f x1 x11).bind fun t191 => (if 0 ≤ (IntKind.u64.wrap (x10)) then (avocetref02_turned.l0 k x0 x1 x2 x3 (IntKind.u64.wrap (x9 + (shl .u64 (IntKind.u64.wrap (t191)) (IntKind.u64.wrap (x10))))) (wrap64 (x10 + 1))) else (none))) else (if x0 = 1 then ((avocetref02_bit.f x1 (wrap64 (x3 - 1))).bind fun t192 => (if 0 ≤ (IntKind.u64.wrap (x10)) then (avocetref02_turned.l0 k x0 x1 x2 x3 (IntKind.u64.wrap (x9 + (shl .u64 (IntKind.u64.wrap (t192)) (IntKind.u64.wrap (x10))))) (wrap64 (x10 + 1))) else (none))) else (if x0 ≥ 3 then (if x3 = 0 then (none) else ((avocetref02_bit.f x1 (Int.tmod (wrap64 (x11 + x3)) x3)).bind fun t193 => (if 0 ≤ (IntKind.u64.wrap (x10)) then (avocetref02_turned.l0 k x0 x1 x2 x3 (IntKind.u64.wrap (x9 + (shl .u64 (IntKind.u64.wrap (t193)) (IntKind.u64.wrap (x10))))) (wrap64 (x10 + 1))) else (none)))) else (if 0 ≤ (IntKind.u64.wrap (x10)) then (avocetref02_turned.l0 k x0 x1 x2 x3 (IntKind.u64.wrap (x9 + (shl .u64 (IntKind.u64.wrap (x12)) (IntKind.u64.wrap (x10))))) (wrap64 (x10 + 1))) else (none))))
end
def avocetref02_turned.f (k : Nat) (a0 : Int) (a1 : Int) (a2 : Int) (a3 : Int) : Option (Int) := avocetref02_turned.l0 k a0 a1 a2 a3 0 0
theorem avocetref02_turned.mono_l : ∀ k, (∀ y0 y1 y2 y3 y4 y5, LeO (avocetref02_turned.l0 k y0 y1 y2 y3 y4 y5) (avocetref02_turned.l0 (k + 1) y0 y1 y2 y3 y4 y5)) ∧ (∀ y0 y1 y2 y3 y4 y5 y6 y7, LeO (avocetref02_turned.j1 k y0 y1 y2 y3 y4 y5 y6 y7) (avocetref02_turned.j1 (k + 1) y0 y1 y2 y3 y4 y5 y6 y7)) ∧ (∀ y0 y1 y2 y3 y4 y5 y6, LeO (avocetref02_turned.j2 k y0 y1 y2 y3 y4 y5 y6) (avocetref02_turned.j2 (k + 1) y0 y1 y2 y3 y4 y5 y6)) ∧ (∀ y0 y1 y2 y3 y4 y5 y6 y7 y8, LeO (avocetref02_turned.j3 k y0 y1 y2 y3 y4 y5 y6 y7 y8) (avocetref02_turned.j3 (k + 1) y0 y1 y2 y3 y4 y5 y6 y7 y8))
  | 0 => ⟨fun _ _ _ _ _ _ r h => by simp [avocetref02_turned.l0] at h, fun _ _ _ _ _ _ _ _ r h => by simp [avocetref02_turned.j1] at h, fun _ _ _ _ _ _ _ r h => by simp [avocetref02_turned.j2] at h, fun _ _ _ _ _ _ _ _ _ r h => by simp [avocetref02_turned.j3] at h⟩
  | k + 1 => by
    obtain ⟨ih0, ih1, ih2, ih3⟩ := avocetref02_turned.mono_l k
    refine ⟨?_, ?_, ?_, ?_⟩
    · intro y0 y1 y2 y3 y4 y5
      unfold avocetref02_turned.l0
      repeat' first
      | (with_reducible exact ih0 _ _ _ _ _ _)
      | (with_reducible exact ih1 _ _ _ _ _ _ _ _)
      | (with_reducible exact ih2 _ _ _ _ _ _ _)
      | (with_reducible exact ih3 _ _ _ _ _ _ _ _ _)
      | (with_reducible exact LeO.refl _)
      | (with_reducible exact LeO.none _)
      | (with_reducible refine LeO.ite ?_ ?_)
      | (with_reducible refine LeO.bind ?_ (fun _ => ?_))
      | exact ih0 _ _ _ _ _ _
      | exact ih1 _ _ _ _ _ _ _ _
      | exact ih2 _ _ _ _ _ _ _
      | exact ih3 _ _ _ _ _ _ _ _ _
      | exact LeO.none _
      | refine LeO.ite ?_ ?_
      | refine LeO.bind ?_ (fun _ => ?_)
    · intro y0 y1 y2 y3 y4 y5 y6 y7
      unfold avocetref02_turned.j1
      repeat' first
      | (with_reducible exact ih0 _ _ _ _ _ _)
      | (with_reducible exact ih1 _ _ _ _ _ _ _ _)
      | (with_reducible exact ih2 _ _ _ _ _ _ _)
      | (with_reducible exact ih3 _ _ _ _ _ _ _ _ _)
      | (with_reducible exact LeO.refl _)
      | (with_reducible exact LeO.none _)
      | (with_reducible refine LeO.ite ?_ ?_)
      | (with_reducible refine LeO.bind ?_ (fun _ => ?_))
      | exact ih0 _ _ _ _ _ _
      | exact ih1 _ _ _ _ _ _ _ _
      | exact ih2 _ _ _ _ _ _ _
      | exact ih3 _ _ _ _ _ _ _ _ _
      | exact LeO.none _
      | refine LeO.ite ?_ ?_
      | refine LeO.bind ?_ (fun _ => ?_)
    · intro y0 y1 y2 y3 y4 y5 y6
      unfold avocetref02_turned.j2
      repeat' first
      | (with_reducible exact ih0 _ _ _ _ _ _)
      | (with_reducible exact ih1 _ _ _ _ _ _ _ _)
      | (with_reducible exact ih2 _ _ _ _ _ _ _)
      | (with_reducible exact ih3 _ _ _ _ _ _ _ _ _)
      | (with_reducible exact LeO.refl _)
      | (with_reducible exact LeO.none _)
      | (with_reducible refine LeO.ite ?_ ?_)
      | (with_reducible refine LeO.bind ?_ (fun _ => ?_))
      | exact ih0 _ _ _ _ _ _
      | exact ih1 _ _ _ _ _ _ _ _
      | exact ih2 _ _ _ _ _ _ _
      | exact ih3 _ _ _ _ _ _ _ _ _
      | exact LeO.none _
      | refine LeO.ite ?_ ?_
      | refine LeO.bind ?_ (fun _ => ?_)
    · intro y0 y1 y2 y3 y4 y5 y6 y7 y8
      unfold avocetref02_turned.j3
      repeat' first
      | (with_reducible exact ih0 _ _ _ _ _ _)
      | (with_reducible exact ih1 _ _ _ _ _ _ _ _)
      | (with_reducible exact ih2 _ _ _ _ _ _ _)
      | (with_reducible exact ih3 _ _ _ _ _ _ _ _ _)
      | (with_reducible exact LeO.refl _)
      | (with_reducible exact LeO.none _)
      | (with_reducible refine LeO.ite ?_ ?_)
      | (with_reducible refine LeO.bind ?_ (fun _ => ?_))
      | exact ih0 _ _ _ _ _ _
      | exact ih1 _ _ _ _ _ _ _ _
      | exact ih2 _ _ _ _ _ _ _
      | exact ih3 _ _ _ _ _ _ _ _ _
      | exact LeO.none _
      | refine LeO.ite ?_ ?_
      | refine LeO.bind ?_ (fun _ => ?_)
theorem avocetref02_turned.mono : ∀ a0 a1 a2 a3 k, LeO (avocetref02_turned.f k a0 a1 a2 a3) (avocetref02_turned.f (k + 1) a0 a1 a2 a3) := by
  intro a0 a1 a2 a3 k
  obtain ⟨ih0, ih1, ih2, ih3⟩ := avocetref02_turned.mono_l k
  unfold avocetref02_turned.f
  repeat' first
      | (with_reducible exact ih0 _ _ _ _ _ _)
      | (with_reducible exact ih1 _ _ _ _ _ _ _ _)
      | (with_reducible exact ih2 _ _ _ _ _ _ _)
      | (with_reducible exact ih3 _ _ _ _ _ _ _ _ _)
      | (with_reducible exact LeO.refl _)
      | (with_reducible exact LeO.none _)
      | (with_reducible refine LeO.ite ?_ ?_)
      | (with_reducible refine LeO.bind ?_ (fun _ => ?_))
      | exact ih0 _ _ _ _ _ _
      | exact ih1 _ _ _ _ _ _ _ _
      | exact ih2 _ _ _ _ _ _ _
      | exact ih3 _ _ _ _ _ _ _ _ _
      | exact LeO.none _
      | refine LeO.ite ?_ ?_
      | refine LeO.bind ?_ (fun _ => ?_)
set_option maxHeartbeats 8000000 in
set_option maxRecDepth 100000 in
theorem avocetref02_turned.calls (k : Nat) (a0 : Int) (a1 : Int) (a2 : Int) (a3 : Int) (r : Int) (w : World) (h : avocetref02_turned.f k a0 a1 a2 a3 = some r) :
    Calls Tryd.prog 44 #[.int .i64 a0, .int .u64 a1, .int .i64 a2, .int .i64 a3] w fun e w' => e = .returned (.int .u64 r) ∧ Drawn0 w w' := by
  have H : (avocetref02_turned.l0 k a0 a1 a2 a3 0 0) = some r := h
  clear h
  have H' := Aside0.mk H
  clear H
  go_enter Tryd.func44, Tryd.ntmps44
  go_wp2
  go_loopg [9, 10] k (fun kq v9 v10 w' => ∃ (x9_1 : Int) (x10_1 : Int), v9 = .int .u64 x9_1 ∧ v10 = .int .i64 x10_1 ∧ Aside0 (avocetref02_turned.l0 kq a0 a1 a2 a3 x9_1 x10_1 = some r) ∧ Aside0 (kq ≤ k) ∧ Drawn0 w w')
  case atStart => exact ⟨(0), (0), (by first | rfl | (simp; done) | (simp [*]; done)), (by first | rfl | (simp; done) | (simp [*]; done)), H', ⟨Nat.le_refl _⟩, by repeat (first | exact Drawn0.refl _ | apply Drawn0.step)⟩
  case round =>
    clear H'
    try clear p2
    try clear c4
    obtain ⟨x9_1, x10_1, rfl, rfl, HA, HK1, ⟨m1, rfl⟩⟩ := hrel
    cases gk with
    | zero => exact absurd HA.out (by simp [avocetref02_turned.l0])
    | succ k1 =>
      have H := HA.out
      clear HA
      simp only [avocetref02_turned.l0] at H
      by_cases c5 : x10_1 < a3
      · rw [if_pos c5] at H
        have c5b0 : decide (x10_1 < a3) = true := decide_eq_true c5
        clear c5
        have HC6 := Aside0.mk H
        clear H
        go_upto_region 6 with (fail)
        go_cut [26] (fun v26 wc => ∃ (kq : Nat) (x26_5 : Bool), v26 = .bool x26_5 ∧ Aside0 (avocetref02_turned.j1 kq a0 a1 a2 a3 x9_1 x10_1 (wrap64 (x10_1 + a2)) x26_5 = some r) ∧ Aside0 (kq ≤ k1) ∧ Drawn0 w wc)
        case first =>
          have H := HC6.out
          clear HC6
          by_cases c7 : a0 = 0
          · rw [if_pos c7] at H
            have c7b0 : (a0 == 0) = true := beq_iff_eq.mpr c7
            have c7b1 : (a0 != 0) = false := bne_eq_false_iff_eq.mpr c7
            clear c7
            (first | rw [c7b0] | (simp only [i64_w, i32_w]; rw [c7b0]) | skip)
            have H' := Aside0.mk H
            clear H
            go_wp2
            go_meet
            case rel => exact ⟨_, (true), (by first | rfl | (simp; done) | (simp [*]; done)), H', ⟨by have := HK1.out; first | omega | exact Nat.le_refl _⟩, by repeat (first | exact Drawn0.refl _ | apply Drawn0.step)⟩
          · rw [if_neg c7] at H
            have c7b0 : (a0 == 0) = false := beq_eq_false_iff_ne.mpr c7
            have c7b1 : (a0 != 0) = true := bne_iff_ne.mpr c7
            (first | rw [c7b0] | (simp only [i64_w, i32_w]; rw [c7b0]) | skip)
            have H' := Aside0.mk H
            clear H
            go_wp2
            go_meet
            case rel => exact ⟨_, ((a0 == 3)), (by first | rfl | (simp; done) | (simp [*]; done)), H', ⟨by have := HK1.out; first | omega | exact Nat.le_refl _⟩, by repeat (first | exact Drawn0.refl _ | apply Drawn0.step)⟩
        case rest =>
          clear HC6
          try clear p2
          try clear c4
          try clear c5
          try clear c5b0
          try clear p6
          try clear c7
          try clear c7b0
          try clear c7b1
          try clear p2
          obtain ⟨kq, x26_5, rfl, HA, HJ5, ⟨mc5, rfl⟩⟩ := hcut
          cases kq with
          | zero => exact absurd HA.out (by simp [avocetref02_turned.j1])
          | succ kj5 =>
            have H := HA.out
            clear HA
            simp only [avocetref02_turned.j1] at H
            have HC8 := Aside0.mk H
            clear H
            go_upto_if 26 with (fail)
            go_cut [11] (fun v11 wc => ∃ (kq : Nat) (x11_7 : Int), v11 = .int .i64 x11_7 ∧ Aside0 (avocetref02_turned.j2 kq a0 a1 a2 a3 x9_1 x10_1 x11_7 = some r) ∧ Aside0 (kq ≤ kj5) ∧ Drawn0 w wc)
            case first =>
              have H := HC8.out
              clear HC8
              by_cases c9 : x26_5 = true
              · subst c9
                have H1 : (avocetref02_turned.j2 kj5 a0 a1 a2 a3 x9_1 x10_1 (wrap64 (x10_1 - a2))) = some r := by rw [if_pos rfl] at H; exact H
                clear H
                have H := H1
                clear H1
                have H' := Aside0.mk H
                clear H
                go_wp2
                go_meet
                case rel => exact ⟨_, (wrap64 (x10_1 - a2)), (by first | rfl | (simp; done) | (simp [*]; done)), H', ⟨by have := HK1.out; have := HJ5.out; first | omega | exact Nat.le_refl _⟩, by repeat (first | exact Drawn0.refl _ | apply Drawn0.step)⟩
              · replace c9 := Bool.eq_false_iff.mpr c9
                subst c9
                have H1 : (avocetref02_turned.j2 kj5 a0 a1 a2 a3 x9_1 x10_1 (wrap64 (x10_1 + a2))) = some r := by rw [if_neg (show ¬ (false = true) by decide)] at H; exact H
                clear H
                have H := H1
                clear H1
                have H' := Aside0.mk H
                clear H
                go_wp2
                go_meet
                case rel => exact ⟨_, ((wrap64 (x10_1 + a2))), (by first | rfl | (simp; done) | (simp [*]; done)), H', ⟨by have := HK1.out; have := HJ5.out; first | omega | exact Nat.le_refl _⟩, by repeat (first | exact Drawn0.refl _ | apply Drawn0.step)⟩
            case rest =>
              clear HC8
              try clear p2
              try clear c4
              try clear c5
              try clear c5b0
              try clear p6
              try clear c7
              try clear c7b0
              try clear c7b1
              try clear c9
              try clear p2
              try clear p6
              obtain ⟨kq, x11_7, rfl, HA, HJ7, ⟨mc7, rfl⟩⟩ := hcut
              cases kq with
              | zero => exact absurd HA.out (by simp [avocetref02_turned.j2])
              | succ kj7 =>
                have H := HA.out
                clear HA
                simp only [avocetref02_turned.j2] at H
                have HC10 := Aside0.mk H
                clear H
                go_upto_region 9 with (fail)
                go_cut [30] (fun v30 wc => ∃ (kq : Nat) (x30_9 : Bool), v30 = .bool x30_9 ∧ Aside0 (avocetref02_turned.j3 kq a0 a1 a2 a3 x9_1 x10_1 x11_7 0 x30_9 = some r) ∧ Aside0 (kq ≤ kj7) ∧ Drawn0 w wc)
                case first =>
                  have H := HC10.out
                  clear HC10
                  by_cases c11 : x11_7 ≥ 0
                  · rw [if_pos c11] at H
                    have c11b0 : decide (0 ≤ x11_7) = true := decide_eq_true c11
                    clear c11
                    (first | rw [c11b0] | (simp only [i64_w, i32_w]; rw [c11b0]) | skip)
                    have H' := Aside0.mk H
                    clear H
                    go_wp2
                    go_meet
                    case rel => exact ⟨_, (decide (x11_7 < a3)), (by first | rfl | (simp; done) | (simp [*]; done)), H', ⟨by have := HK1.out; have := HJ5.out; have := HJ7.out; first | omega | exact Nat.le_refl _⟩, by repeat (first | exact Drawn0.refl _ | apply Drawn0.step)⟩
                  · rw [if_neg c11] at H
                    have c11b0 : decide (0 ≤ x11_7) = false := decide_eq_false c11
                    clear c11
                    (first | rw [c11b0] | (simp only [i64_w, i32_w]; rw [c11b0]) | skip)
                    have H' := Aside0.mk H
                    clear H
                    go_wp2
                    go_meet
                    case rel => exact ⟨_, (false), (by first | rfl | (simp; done) | (simp [*]; done)), H', ⟨by have := HK1.out; have := HJ5.out; have := HJ7.out; first | omega | exact Nat.le_refl _⟩, by repeat (first | exact Drawn0.refl _ | apply Drawn0.step)⟩
                case rest =>
                  clear HC10
                  try clear c1
                  try clear p2
                  try clear c4
                  try clear c5
                  try clear c5b0
                  try clear p6
                  try clear c7
                  try clear c7b0
                  try clear c7b1
                  try clear c9
                  try clear c11
                  try clear c11b0
                  try clear p2
                  try clear p6
                  obtain ⟨kq, x30_9, rfl, HA, HJ9, ⟨mc9, rfl⟩⟩ := hcut
                  cases kq with
                  | zero => exact absurd HA.out (by simp [avocetref02_turned.j3])
                  | succ kj9 =>
                    have H := HA.out
                    clear HA
                    simp only [avocetref02_turned.j3] at H
                    by_cases c12 : x30_9 = true
                    · subst c12
                      have H1 : ((avocetref02_bit.f a1 x11_7).bind fun t191 => (if 0 ≤ (IntKind.u64.wrap (x10_1)) then (avocetref02_turned.l0 kj9 a0 a1 a2 a3 (IntKind.u64.wrap (x9_1 + (shl .u64 (IntKind.u64.wrap (t191)) (IntKind.u64.wrap (x10_1))))) (wrap64 (x10_1 + 1))) else (none))) = some r := by rw [if_pos rfl] at H; exact H
                      clear H
                      have H := H1
                      clear H1
                      replace H := Option.bind_eq_some_iff.mp H
                      obtain ⟨t191, A130, H⟩ := H
                      replace H : (if 0 ≤ (IntKind.u64.wrap (x10_1)) then (avocetref02_turned.l0 kj9 a0 a1 a2 a3 (IntKind.u64.wrap (x9_1 + (shl .u64 (IntKind.u64.wrap (t191)) (IntKind.u64.wrap (x10_1))))) (wrap64 (x10_1 + 1))) else (none)) = some r := H
                      have A13 := Aside0.mk A130
                      clear A130
                      obtain ⟨ji14, hji14⟩ : ∃ j_ : Int, (IntKind.u64.wrap (x10_1)) = j_ := ⟨_, rfl⟩
                      replace H : (if 0 ≤ (ji14) then (avocetref02_turned.l0 kj9 a0 a1 a2 a3 (IntKind.u64.wrap (x9_1 + (shl .u64 (IntKind.u64.wrap (t191)) (ji14)))) (wrap64 (x10_1 + 1))) else (none)) = some r := by first | (rw [hji14] at H; exact H) | (simp only [hji14] at H ⊢; exact H)
                      (try rw [hji14] at A13)
                      by_cases c15 : 0 ≤ (ji14)
                      · rw [if_pos c15] at H
                        have c15b0 := eq_true c15
                        have c15b1 : decide (0 ≤ (ji14)) = true := decide_eq_true c15
                        clear c15
                        obtain ⟨ji16, hji16⟩ : ∃ j_ : Int, (shl .u64 (IntKind.u64.wrap (t191)) (ji14)) = j_ := ⟨_, rfl⟩
                        replace H : (avocetref02_turned.l0 kj9 a0 a1 a2 a3 (IntKind.u64.wrap (x9_1 + (ji16))) (wrap64 (x10_1 + 1))) = some r := by first | (rw [hji16] at H; exact H) | (simp only [hji16] at H ⊢; exact H)
                        (try rw [hji16] at A13)
                        have hji16_ : (IntKind.u64.wrap ((IntKind.u64.wrap (t191)) * 2 ^ min (ji14).toNat 64)) = ji16 := hji16
                        have hji16z : (ji14) ≤ 64 → (IntKind.u64.wrap ((IntKind.u64.wrap (t191)) * 2 ^ (ji14).toNat)) = ji16 := shl_small hji16
                        have H' := Aside0.mk H
                        clear H
                        go_wp2_with (first | ((with_reducible refine gate_callee (f := 68) rfl ?_); refine goesL_ (some 40) rfl rfl Tryd.func68 (by kernel_rfl) rfl #[.int .u64 a1, .int .i64 x11_7] rfl (by (try simp only [List.map_toArray, List.map_cons, List.map_nil]); first | done | rfl | (simp only [List.length_drop, List.length_take]; rfl)) ?_; (with_reducible refine (avocetref02_bit.calls a1 x11_7 t191 _ A13.out).mono ?_); rintro e w' ⟨rfl, ⟨nd, rfl⟩⟩; refine ⟨_, rfl, ?_⟩))
                        go_roundg kj9
                        case measure => have := HK1.out; have := HJ5.out; have := HJ7.out; have := HJ9.out; omega
                        case rel => exact ⟨(IntKind.u64.wrap (x9_1 + (ji16))), (wrap64 (x10_1 + 1)), (by first | rfl | (simp; done) | (simp only [← hji16] <;> (first | rfl | simp)) | (simp [*]; done)), (by first | rfl | (simp; done) | (simp [*]; done)), H', ⟨by have := HK1.out; have := HJ5.out; have := HJ7.out; have := HJ9.out; omega⟩, by repeat (first | exact Drawn0.refl _ | apply Drawn0.step)⟩
                      · rw [if_neg c15] at H
                        exact absurd H (by simp)
                    · replace c12 := Bool.eq_false_iff.mpr c12
                      subst c12
                      have H1 : (if a0 = 1 then ((avocetref02_bit.f a1 (wrap64 (a3 - 1))).bind fun t192 => (if 0 ≤ (IntKind.u64.wrap (x10_1)) then (avocetref02_turned.l0 kj9 a0 a1 a2 a3 (IntKind.u64.wrap (x9_1 + (shl .u64 (IntKind.u64.wrap (t192)) (IntKind.u64.wrap (x10_1))))) (wrap64 (x10_1 + 1))) else (none))) else (if a0 ≥ 3 then (if a3 = 0 then (none) else ((avocetref02_bit.f a1 (Int.tmod (wrap64 (x11_7 + a3)) a3)).bind fun t193 => (if 0 ≤ (IntKind.u64.wrap (x10_1)) then (avocetref02_turned.l0 kj9 a0 a1 a2 a3 (IntKind.u64.wrap (x9_1 + (shl .u64 (IntKind.u64.wrap (t193)) (IntKind.u64.wrap (x10_1))))) (wrap64 (x10_1 + 1))) else (none)))) else (if 0 ≤ (IntKind.u64.wrap (x10_1)) then (avocetref02_turned.l0 kj9 a0 a1 a2 a3 (IntKind.u64.wrap (x9_1 + (shl .u64 (IntKind.u64.wrap (0)) (IntKind.u64.wrap (x10_1))))) (wrap64 (x10_1 + 1))) else (none)))) = some r := by rw [if_neg (show ¬ (false = true) by decide)] at H; exact H
                      clear H
                      have H := H1
                      clear H1
                      by_cases c17 : a0 = 1
                      · rw [if_pos c17] at H
                        have c17b0 : (a0 == 1) = true := beq_iff_eq.mpr c17
                        have c17b1 : (a0 != 1) = false := bne_eq_false_iff_eq.mpr c17
                        clear c17
                        replace H := Option.bind_eq_some_iff.mp H
                        obtain ⟨t192, A180, H⟩ := H
                        replace H : (if 0 ≤ (IntKind.u64.wrap (x10_1)) then (avocetref02_turned.l0 kj9 a0 a1 a2 a3 (IntKind.u64.wrap (x9_1 + (shl .u64 (IntKind.u64.wrap (t192)) (IntKind.u64.wrap (x10_1))))) (wrap64 (x10_1 + 1))) else (none)) = some r := H
                        have A18 := Aside0.mk A180
                        clear A180
                        obtain ⟨ji19, hji19⟩ : ∃ j_ : Int, (IntKind.u64.wrap (x10_1)) = j_ := ⟨_, rfl⟩
                        replace H : (if 0 ≤ (ji19) then (avocetref02_turned.l0 kj9 a0 a1 a2 a3 (IntKind.u64.wrap (x9_1 + (shl .u64 (IntKind.u64.wrap (t192)) (ji19)))) (wrap64 (x10_1 + 1))) else (none)) = some r := by first | (rw [hji19] at H; exact H) | (simp only [hji19] at H ⊢; exact H)
                        (try rw [hji19] at A18)
                        by_cases c20 : 0 ≤ (ji19)
                        · rw [if_pos c20] at H
                          have c20b0 := eq_true c20
                          have c20b1 : decide (0 ≤ (ji19)) = true := decide_eq_true c20
                          clear c20
                          obtain ⟨ji21, hji21⟩ : ∃ j_ : Int, (shl .u64 (IntKind.u64.wrap (t192)) (ji19)) = j_ := ⟨_, rfl⟩
                          replace H : (avocetref02_turned.l0 kj9 a0 a1 a2 a3 (IntKind.u64.wrap (x9_1 + (ji21))) (wrap64 (x10_1 + 1))) = some r := by first | (rw [hji21] at H; exact H) | (simp only [hji21] at H ⊢; exact H)
                          (try rw [hji21] at A18)
                          have hji21_ : (IntKind.u64.wrap ((IntKind.u64.wrap (t192)) * 2 ^ min (ji19).toNat 64)) = ji21 := hji21
                          have hji21z : (ji19) ≤ 64 → (IntKind.u64.wrap ((IntKind.u64.wrap (t192)) * 2 ^ (ji19).toNat)) = ji21 := shl_small hji21
                          have H' := Aside0.mk H
                          clear H
                          go_wp2_with (first | ((with_reducible refine gate_callee (f := 68) rfl ?_); refine goesL_ (some 47) rfl rfl Tryd.func68 (by kernel_rfl) rfl #[.int .u64 a1, .int .i64 (wrap64 (a3 - 1))] rfl (by (try simp only [List.map_toArray, List.map_cons, List.map_nil]); first | done | rfl | (simp only [List.length_drop, List.length_take]; rfl)) ?_; (with_reducible refine (avocetref02_bit.calls a1 (wrap64 (a3 - 1)) t192 _ A18.out).mono ?_); rintro e w' ⟨rfl, ⟨nd, rfl⟩⟩; refine ⟨_, rfl, ?_⟩))
                          go_roundg kj9
                          case measure => have := HK1.out; have := HJ5.out; have := HJ7.out; have := HJ9.out; omega
                          case rel => exact ⟨(IntKind.u64.wrap (x9_1 + (ji21))), (wrap64 (x10_1 + 1)), (by first | rfl | (simp; done) | (simp only [← hji21] <;> (first | rfl | simp)) | (simp [*]; done)), (by first | rfl | (simp; done) | (simp [*]; done)), H', ⟨by have := HK1.out; have := HJ5.out; have := HJ7.out; have := HJ9.out; omega⟩, by repeat (first | exact Drawn0.refl _ | apply Drawn0.step)⟩
                        · rw [if_neg c20] at H
                          exact absurd H (by simp)
                      · rw [if_neg c17] at H
                        have c17b0 : (a0 == 1) = false := beq_eq_false_iff_ne.mpr c17
                        have c17b1 : (a0 != 1) = true := bne_iff_ne.mpr c17
                        by_cases c22 : a0 ≥ 3
                        · rw [if_pos c22] at H
                          have c22b0 : decide (3 ≤ a0) = true := decide_eq_true c22
                          clear c22
                          by_cases c23 : a3 = 0
                          · rw [if_pos c23] at H
                            exact absurd H (by simp)
                          · rw [if_neg c23] at H
                            have c23b0 : (a3 == 0) = false := beq_eq_false_iff_ne.mpr c23
                            have c23b1 : (a3 != 0) = true := bne_iff_ne.mpr c23
                            replace H := Option.bind_eq_some_iff.mp H
                            obtain ⟨t193, A240, H⟩ := H
                            replace H : (if 0 ≤ (IntKind.u64.wrap (x10_1)) then (avocetref02_turned.l0 kj9 a0 a1 a2 a3 (IntKind.u64.wrap (x9_1 + (shl .u64 (IntKind.u64.wrap (t193)) (IntKind.u64.wrap (x10_1))))) (wrap64 (x10_1 + 1))) else (none)) = some r := H
                            have A24 := Aside0.mk A240
                            clear A240
                            obtain ⟨ji25, hji25⟩ : ∃ j_ : Int, (IntKind.u64.wrap (x10_1)) = j_ := ⟨_, rfl⟩
                            replace H : (if 0 ≤ (ji25) then (avocetref02_turned.l0 kj9 a0 a1 a2 a3 (IntKind.u64.wrap (x9_1 + (shl .u64 (IntKind.u64.wrap (t193)) (ji25)))) (wrap64 (x10_1 + 1))) else (none)) = some r := by first | (rw [hji25] at H; exact H) | (simp only [hji25] at H ⊢; exact H)
                            (try rw [hji25] at A24)
                            by_cases c26 : 0 ≤ (ji25)
                            · rw [if_pos c26] at H
                              have c26b0 := eq_true c26
                              have c26b1 : decide (0 ≤ (ji25)) = true := decide_eq_true c26
                              clear c26
                              obtain ⟨ji27, hji27⟩ : ∃ j_ : Int, (shl .u64 (IntKind.u64.wrap (t193)) (ji25)) = j_ := ⟨_, rfl⟩
                              replace H : (avocetref02_turned.l0 kj9 a0 a1 a2 a3 (IntKind.u64.wrap (x9_1 + (ji27))) (wrap64 (x10_1 + 1))) = some r := by first | (rw [hji27] at H; exact H) | (simp only [hji27] at H ⊢; exact H)
                              (try rw [hji27] at A24)
                              have hji27_ : (IntKind.u64.wrap ((IntKind.u64.wrap (t193)) * 2 ^ min (ji25).toNat 64)) = ji27 := hji27
                              have hji27z : (ji25) ≤ 64 → (IntKind.u64.wrap ((IntKind.u64.wrap (t193)) * 2 ^ (ji25).toNat)) = ji27 := shl_small hji27
                              have H' := Aside0.mk H
                              clear H
                              go_wp2_with (first | ((with_reducible refine gate_callee (f := 68) rfl ?_); refine goesL_ (some 57) rfl rfl Tryd.func68 (by kernel_rfl) rfl #[.int .u64 a1, .int .i64 (Int.tmod (wrap64 (x11_7 + a3)) a3)] rfl (by (try simp only [List.map_toArray, List.map_cons, List.map_nil]); first | done | rfl | (simp only [List.length_drop, List.length_take]; rfl)) ?_; (with_reducible refine (avocetref02_bit.calls a1 (Int.tmod (wrap64 (x11_7 + a3)) a3) t193 _ A24.out).mono ?_); rintro e w' ⟨rfl, ⟨nd, rfl⟩⟩; refine ⟨_, rfl, ?_⟩))
                              go_roundg kj9
                              case measure => have := HK1.out; have := HJ5.out; have := HJ7.out; have := HJ9.out; omega
                              case rel => exact ⟨(IntKind.u64.wrap (x9_1 + (ji27))), (wrap64 (x10_1 + 1)), (by first | rfl | (simp; done) | (simp only [← hji27] <;> (first | rfl | simp)) | (simp [*]; done)), (by first | rfl | (simp; done) | (simp [*]; done)), H', ⟨by have := HK1.out; have := HJ5.out; have := HJ7.out; have := HJ9.out; omega⟩, by repeat (first | exact Drawn0.refl _ | apply Drawn0.step)⟩
                            · rw [if_neg c26] at H
                              exact absurd H (by simp)
                        · rw [if_neg c22] at H
                          have c22b0 : decide (3 ≤ a0) = false := decide_eq_false c22
                          clear c22
                          obtain ⟨ji28, hji28⟩ : ∃ j_ : Int, (IntKind.u64.wrap (x10_1)) = j_ := ⟨_, rfl⟩
                          replace H : (if 0 ≤ (ji28) then (avocetref02_turned.l0 kj9 a0 a1 a2 a3 (IntKind.u64.wrap (x9_1 + (shl .u64 (IntKind.u64.wrap (0)) (ji28)))) (wrap64 (x10_1 + 1))) else (none)) = some r := by first | (rw [hji28] at H; exact H) | (simp only [hji28] at H ⊢; exact H)
                          by_cases c29 : 0 ≤ (ji28)
                          · rw [if_pos c29] at H
                            have c29b0 := eq_true c29
                            have c29b1 : decide (0 ≤ (ji28)) = true := decide_eq_true c29
                            clear c29
                            obtain ⟨ji30, hji30⟩ : ∃ j_ : Int, (shl .u64 (IntKind.u64.wrap (0)) (ji28)) = j_ := ⟨_, rfl⟩
                            replace H : (avocetref02_turned.l0 kj9 a0 a1 a2 a3 (IntKind.u64.wrap (x9_1 + (ji30))) (wrap64 (x10_1 + 1))) = some r := by first | (rw [hji30] at H; exact H) | (simp only [hji30] at H ⊢; exact H)
                            have hji30_ : (IntKind.u64.wrap ((IntKind.u64.wrap (0)) * 2 ^ min (ji28).toNat 64)) = ji30 := hji30
                            have hji30z : (ji28) ≤ 64 → (IntKind.u64.wrap ((IntKind.u64.wrap (0)) * 2 ^ (ji28).toNat)) = ji30 := shl_small hji30
                            have H' := Aside0.mk H
                            clear H
                            go_wp2
                            go_roundg kj9
                            case measure => have := HK1.out; have := HJ5.out; have := HJ7.out; have := HJ9.out; omega
                            case rel => exact ⟨(IntKind.u64.wrap (x9_1 + (ji30))), (wrap64 (x10_1 + 1)), (by first | rfl | (simp; done) | (simp only [← hji30] <;> (first | rfl | simp)) | (simp [*]; done)), (by first | rfl | (simp; done) | (simp [*]; done)), H', ⟨by have := HK1.out; have := HJ5.out; have := HJ7.out; have := HJ9.out; omega⟩, by repeat (first | exact Drawn0.refl _ | apply Drawn0.step)⟩
                          · rw [if_neg c29] at H
                            exact absurd H (by simp)
      · rw [if_neg c5] at H
        have c5b0 : decide (x10_1 < a3) = false := decide_eq_false c5
        clear c5
        obtain rfl := Option.some.inj H
        go_wp2
        go_ret
        exact ⟨by first | rfl | (simp; done) | (simp [*]; done), by repeat (first | exact Drawn0.refl _ | apply Drawn0.step)⟩

/-! ### avocetref02_Two: function 19 -/
def avocetref02_Two.j0 : Nat → Int → Int → Int → Int → Bool → Option (Int × Int × Bool)
  | 0, _, _, _, _, _ => none
  | k + 1, x1, x2, x9, x10, x29 => if x29 = true then (some (0, 0, false)) else ((avocetref02_low.f x1 x10).bind fun t196 => ((avocetref02_low.f x2 x10).bind fun t197 => (if x9 ≤ 10 then ((avocetref02_compare.f x9 t196 t197 x10).bind fun t198 => ((avocetref02_yes.f t198).bind fun t199 => (some (t199, 0, true)))) else (if x9 = 14 then ((avocetref02_low.f (IntKind.u64.wrap (t196 + t197)) x10).bind fun t200 => (some (t200, 0, true))) else (if x9 = 15 then ((avocetref02_low.f (IntKind.u64.wrap (t196 - t197)) x10).bind fun t201 => (some (t201, 0, true))) else (if x9 = 16 then ((avocetref02_low.f (IntKind.u64.wrap (t196 * t197)) x10).bind fun t202 => (some (t202, 0, true))) else (if x9 ≤ 20 then ((avocetref02_divided.f (wrap64 (x9 - 17)) t196 t197 x10).bind fun bt203 => (some (bt203.1, bt203.2, true))) else (if x9 = 21 then (some (Go.bits .and .u64 t196 t197, 0, true)) else (if x9 = 22 then (some (Go.bits .or .u64 t196 t197, 0, true)) else (if x9 = 23 then (some (Go.bits .xor .u64 t196 t197, 0, true)) else (if (IntKind.u64.wrap (x10)) = 0 then (none) else ((avocetref02_turned.f k (wrap64 (x9 - 24)) t196 (wrap64 (Int.tmod t197 (IntKind.u64.wrap (x10)))) x10).bind fun t205 => (some (t205, 0, true))))))))))))))
def avocetref02_Two.f (k : Nat) (a0 : Int) (a1 : Int) (a2 : Int) : Option (Int × Int × Bool) := (avocetref02_kind.f k a0).bind fun bt194 => (if bt194.1 < 1 then (avocetref02_Two.j0 k a1 a2 bt194.1 bt194.2 true) else (if bt194.1 > 10 then (avocetref02_Two.j0 k a1 a2 bt194.1 bt194.2 (decide (bt194.1 < 14))) else (avocetref02_Two.j0 k a1 a2 bt194.1 bt194.2 false)))
theorem avocetref02_Two.mono_l : ∀ k, (∀ y0 y1 y2 y3 y4, LeO (avocetref02_Two.j0 k y0 y1 y2 y3 y4) (avocetref02_Two.j0 (k + 1) y0 y1 y2 y3 y4))
  | 0 => fun _ _ _ _ _ r h => by simp [avocetref02_Two.j0] at h
  | k + 1 => by
    have ih0 := avocetref02_Two.mono_l k
    · intro y0 y1 y2 y3 y4
      unfold avocetref02_Two.j0
      repeat' first
      | (with_reducible exact ih0 _ _ _ _ _)
      | (with_reducible exact avocetref02_kind.mono _ _)
      | (with_reducible exact avocetref02_turned.mono _ _ _ _ _)
      | (with_reducible exact LeO.refl _)
      | (with_reducible exact LeO.none _)
      | (with_reducible refine LeO.ite ?_ ?_)
      | (with_reducible refine LeO.bind ?_ (fun _ => ?_))
      | exact ih0 _ _ _ _ _
      | exact avocetref02_kind.mono _ _
      | exact avocetref02_turned.mono _ _ _ _ _
      | exact LeO.none _
      | refine LeO.ite ?_ ?_
      | refine LeO.bind ?_ (fun _ => ?_)
theorem avocetref02_Two.mono : ∀ a0 a1 a2 k, LeO (avocetref02_Two.f k a0 a1 a2) (avocetref02_Two.f (k + 1) a0 a1 a2) := by
  intro a0 a1 a2 k
  have ih0 := avocetref02_Two.mono_l k
  unfold avocetref02_Two.f
  repeat' first
      | (with_reducible exact ih0 _ _ _ _ _)
      | (with_reducible exact avocetref02_kind.mono _ _)
      | (with_reducible exact avocetref02_turned.mono _ _ _ _ _)
      | (with_reducible exact LeO.refl _)
      | (with_reducible exact LeO.none _)
      | (with_reducible refine LeO.ite ?_ ?_)
      | (with_reducible refine LeO.bind ?_ (fun _ => ?_))
      | exact ih0 _ _ _ _ _
      | exact avocetref02_kind.mono _ _
      | exact avocetref02_turned.mono _ _ _ _ _
      | exact LeO.none _
      | refine LeO.ite ?_ ?_
      | refine LeO.bind ?_ (fun _ => ?_)
set_option maxHeartbeats 8000000 in
set_option maxRecDepth 100000 in
theorem avocetref02_Two.calls (k : Nat) (a0 : Int) (a1 : Int) (a2 : Int) (r1 : Int) (r2 : Int) (r3 : Bool) (w : World) (h : avocetref02_Two.f k a0 a1 a2 = some (r1, r2, r3)) :
    Calls Tryd.prog 19 #[.int .i64 a0, .int .u64 a1, .int .u64 a2] w fun e w' => e = .returned (.tuple #[.int .u64 r1, .int .i64 r2, .bool r3]) ∧ Drawn0 w w' := by
  have H : ((avocetref02_kind.f k a0).bind fun bt194 => (if bt194.1 < 1 then (avocetref02_Two.j0 k a1 a2 bt194.1 bt194.2 true) else (if bt194.1 > 10 then (avocetref02_Two.j0 k a1 a2 bt194.1 bt194.2 (decide (bt194.1 < 14))) else (avocetref02_Two.j0 k a1 a2 bt194.1 bt194.2 false)))) = some (r1, r2, r3) := h
  clear h
  replace H := Option.bind_eq_some_iff.mp H
  obtain ⟨⟨t194, t195⟩, A40, H⟩ := H
  replace H : (if t194 < 1 then (avocetref02_Two.j0 k a1 a2 t194 t195 true) else (if t194 > 10 then (avocetref02_Two.j0 k a1 a2 t194 t195 (decide (t194 < 14))) else (avocetref02_Two.j0 k a1 a2 t194 t195 false))) = some (r1, r2, r3) := H
  have A4 := Aside0.mk A40
  clear A40
  have HC5 := Aside0.mk H
  clear H
  go_enter Tryd.func19, Tryd.ntmps19
  go_upto_region 2 with (first | ((with_reducible refine gate_callee (f := 37) rfl ?_); refine goesL_ (some 17) rfl rfl Tryd.func37 (by kernel_rfl) rfl #[.int .i64 a0] rfl (by (try simp only [List.map_toArray, List.map_cons, List.map_nil]); first | done | rfl | (simp only [List.length_drop, List.length_take]; rfl)) ?_; (with_reducible refine (avocetref02_kind.calls k a0 t194 t195 _ A4.out).mono ?_); rintro e w' ⟨rfl, ⟨nd, rfl⟩⟩; refine ⟨_, rfl, ?_⟩))
  (try simp only [Act.put, List.setIfInBounds_toArray, List.set_cons_zero, List.set_cons_succ])
  go_cut [29] (fun v29 wc => ∃ (kq : Nat) (x29_4 : Bool), v29 = .bool x29_4 ∧ Aside0 (avocetref02_Two.j0 kq a1 a2 t194 t195 x29_4 = some (r1, r2, r3)) ∧ Aside0 (kq ≤ k) ∧ Drawn0 w wc)
  case first =>
    have H := HC5.out
    clear HC5
    by_cases c6 : t194 < 1
    · rw [if_pos c6] at H
      have c6b0 : decide (t194 < 1) = true := decide_eq_true c6
      clear c6
      (first | rw [c6b0] | (simp only [i64_w, i32_w]; rw [c6b0]) | skip)
      have H' := Aside0.mk H
      clear H
      go_wp2
      go_meet
      case rel => exact ⟨_, (true), (by first | rfl | (simp; done) | (simp [*]; done)), H', ⟨by first | omega | exact Nat.le_refl _⟩, by repeat (first | exact Drawn0.refl _ | apply Drawn0.step)⟩
    · rw [if_neg c6] at H
      have c6b0 : decide (t194 < 1) = false := decide_eq_false c6
      clear c6
      (first | rw [c6b0] | (simp only [i64_w, i32_w]; rw [c6b0]) | skip)
      by_cases c7 : t194 > 10
      · rw [if_pos c7] at H
        have c7b0 : decide (10 < t194) = true := decide_eq_true c7
        clear c7
        have H' := Aside0.mk H
        clear H
        go_wp2
        go_meet
        case rel => exact ⟨_, (decide (t194 < 14)), (by first | rfl | (simp; done) | (simp [*]; done)), H', ⟨by first | omega | exact Nat.le_refl _⟩, by repeat (first | exact Drawn0.refl _ | apply Drawn0.step)⟩
      · rw [if_neg c7] at H
        have c7b0 : decide (10 < t194) = false := decide_eq_false c7
        clear c7
        have H' := Aside0.mk H
        clear H
        go_wp2
        go_meet
        case rel => exact ⟨_, (false), (by first | rfl | (simp; done) | (simp [*]; done)), H', ⟨by first | omega | exact Nat.le_refl _⟩, by repeat (first | exact Drawn0.refl _ | apply Drawn0.step)⟩
  case rest =>
    clear HC5
    try clear c1
    try clear p2
    try clear c3
    try clear c6
    try clear c6b0
    try clear c7
    try clear c7b0
    obtain ⟨kq, x29_4, rfl, HA, HJ4, ⟨mc4, rfl⟩⟩ := hcut
    cases kq with
    | zero => exact absurd HA.out (by simp [avocetref02_Two.j0])
    | succ kj4 =>
      have H := HA.out
      clear HA
      simp only [avocetref02_Two.j0] at H
      by_cases c8 : x29_4 = true
      · subst c8
        have H1 : (some (0, 0, false)) = some (r1, r2, r3) := by rw [if_pos rfl] at H; exact H
        clear H
        have H := H1
        clear H1
        simp only [Option.some.injEq, Prod.mk.injEq] at H
        obtain ⟨rfl, rfl, rfl⟩ := H
        go_wp2
        go_ret3
        exact ⟨by first | rfl | (simp; done) | (simp [*]; done), by repeat (first | exact Drawn0.refl _ | apply Drawn0.step)⟩
      · replace c8 := Bool.eq_false_iff.mpr c8
        subst c8
        have H1 : ((avocetref02_low.f a1 t195).bind fun t196 => ((avocetref02_low.f a2 t195).bind fun t197 => (if t194 ≤ 10 then ((avocetref02_compare.f t194 t196 t197 t195).bind fun t198 => ((avocetref02_yes.f t198).bind fun t199 => (some (t199, 0, true)))) else (if t194 = 14 then ((avocetref02_low.f (IntKind.u64.wrap (t196 + t197)) t195).bind fun t200 => (some (t200, 0, true))) else (if t194 = 15 then ((avocetref02_low.f (IntKind.u64.wrap (t196 - t197)) t195).bind fun t201 => (some (t201, 0, true))) else (if t194 = 16 then ((avocetref02_low.f (IntKind.u64.wrap (t196 * t197)) t195).bind fun t202 => (some (t202, 0, true))) else (if t194 ≤ 20 then ((avocetref02_divided.f (wrap64 (t194 - 17)) t196 t197 t195).bind fun bt203 => (some (bt203.1, bt203.2, true))) else (if t194 = 21 then (some (Go.bits .and .u64 t196 t197, 0, true)) else (if t194 = 22 then (some (Go.bits .or .u64 t196 t197, 0, true)) else (if t194 = 23 then (some (Go.bits .xor .u64 t196 t197, 0, true)) else (if (IntKind.u64.wrap (t195)) = 0 then (none) else ((avocetref02_turned.f kj4 (wrap64 (t194 - 24)) t196 (wrap64 (Int.tmod t197 (IntKind.u64.wrap (t195)))) t195).bind fun t205 => (some (t205, 0, true)))))))))))))) = some (r1, r2, r3) := by rw [if_neg (show ¬ (false = true) by decide)] at H; exact H
        clear H
        have H := H1
        clear H1
        replace H := Option.bind_eq_some_iff.mp H
        obtain ⟨t196, A90, H⟩ := H
        replace H : ((avocetref02_low.f a2 t195).bind fun t197 => (if t194 ≤ 10 then ((avocetref02_compare.f t194 t196 t197 t195).bind fun t198 => ((avocetref02_yes.f t198).bind fun t199 => (some (t199, 0, true)))) else (if t194 = 14 then ((avocetref02_low.f (IntKind.u64.wrap (t196 + t197)) t195).bind fun t200 => (some (t200, 0, true))) else (if t194 = 15 then ((avocetref02_low.f (IntKind.u64.wrap (t196 - t197)) t195).bind fun t201 => (some (t201, 0, true))) else (if t194 = 16 then ((avocetref02_low.f (IntKind.u64.wrap (t196 * t197)) t195).bind fun t202 => (some (t202, 0, true))) else (if t194 ≤ 20 then ((avocetref02_divided.f (wrap64 (t194 - 17)) t196 t197 t195).bind fun bt203 => (some (bt203.1, bt203.2, true))) else (if t194 = 21 then (some (Go.bits .and .u64 t196 t197, 0, true)) else (if t194 = 22 then (some (Go.bits .or .u64 t196 t197, 0, true)) else (if t194 = 23 then (some (Go.bits .xor .u64 t196 t197, 0, true)) else (if (IntKind.u64.wrap (t195)) = 0 then (none) else ((avocetref02_turned.f kj4 (wrap64 (t194 - 24)) t196 (wrap64 (Int.tmod t197 (IntKind.u64.wrap (t195)))) t195).bind fun t205 => (some (t205, 0, true))))))))))))) = some (r1, r2, r3) := H
        have A9 := Aside0.mk A90
        clear A90
        replace H := Option.bind_eq_some_iff.mp H
        obtain ⟨t197, A100, H⟩ := H
        replace H : (if t194 ≤ 10 then ((avocetref02_compare.f t194 t196 t197 t195).bind fun t198 => ((avocetref02_yes.f t198).bind fun t199 => (some (t199, 0, true)))) else (if t194 = 14 then ((avocetref02_low.f (IntKind.u64.wrap (t196 + t197)) t195).bind fun t200 => (some (t200, 0, true))) else (if t194 = 15 then ((avocetref02_low.f (IntKind.u64.wrap (t196 - t197)) t195).bind fun t201 => (some (t201, 0, true))) else (if t194 = 16 then ((avocetref02_low.f (IntKind.u64.wrap (t196 * t197)) t195).bind fun t202 => (some (t202, 0, true))) else (if t194 ≤ 20 then ((avocetref02_divided.f (wrap64 (t194 - 17)) t196 t197 t195).bind fun bt203 => (some (bt203.1, bt203.2, true))) else (if t194 = 21 then (some (Go.bits .and .u64 t196 t197, 0, true)) else (if t194 = 22 then (some (Go.bits .or .u64 t196 t197, 0, true)) else (if t194 = 23 then (some (Go.bits .xor .u64 t196 t197, 0, true)) else (if (IntKind.u64.wrap (t195)) = 0 then (none) else ((avocetref02_turned.f kj4 (wrap64 (t194 - 24)) t196 (wrap64 (Int.tmod t197 (IntKind.u64.wrap (t195)))) t195).bind fun t205 => (some (t205, 0, true)))))))))))) = some (r1, r2, r3) := H
        have A10 := Aside0.mk A100
        clear A100
        by_cases c11 : t194 ≤ 10
        · rw [if_pos c11] at H
          have c11b0 : decide (t194 ≤ 10) = true := decide_eq_true c11
          clear c11
          replace H := Option.bind_eq_some_iff.mp H
          obtain ⟨t198, A120, H⟩ := H
          replace H : ((avocetref02_yes.f t198).bind fun t199 => (some (t199, 0, true))) = some (r1, r2, r3) := H
          have A12 := Aside0.mk A120
          clear A120
          replace H := Option.bind_eq_some_iff.mp H
          obtain ⟨t199, A130, H⟩ := H
          replace H : (some (t199, 0, true)) = some (r1, r2, r3) := H
          have A13 := Aside0.mk A130
          clear A130
          simp only [Option.some.injEq, Prod.mk.injEq] at H
          obtain ⟨rfl, rfl, rfl⟩ := H
          go_wp2_with (first | ((with_reducible refine gate_callee (f := 38) rfl ?_); refine goesL_ (some 32) rfl rfl Tryd.func38 (by kernel_rfl) rfl #[.int .u64 a1, .int .i64 t195] rfl (by (try simp only [List.map_toArray, List.map_cons, List.map_nil]); first | done | rfl | (simp only [List.length_drop, List.length_take]; rfl)) ?_; (with_reducible refine (avocetref02_low.calls a1 t195 t196 _ A9.out).mono ?_); rintro e w' ⟨rfl, ⟨nd, rfl⟩⟩; refine ⟨_, rfl, ?_⟩) | ((with_reducible refine gate_callee (f := 38) rfl ?_); refine goesL_ (some 35) rfl rfl Tryd.func38 (by kernel_rfl) rfl #[.int .u64 a2, .int .i64 t195] rfl (by (try simp only [List.map_toArray, List.map_cons, List.map_nil]); first | done | rfl | (simp only [List.length_drop, List.length_take]; rfl)) ?_; (with_reducible refine (avocetref02_low.calls a2 t195 t197 _ A10.out).mono ?_); rintro e w' ⟨rfl, ⟨nd, rfl⟩⟩; refine ⟨_, rfl, ?_⟩) | ((with_reducible refine gate_callee (f := 42) rfl ?_); refine goesL_ (some 43) rfl rfl Tryd.func42 (by kernel_rfl) rfl #[.int .i64 t194, .int .u64 t196, .int .u64 t197, .int .i64 t195] rfl (by (try simp only [List.map_toArray, List.map_cons, List.map_nil]); first | done | rfl | (simp only [List.length_drop, List.length_take]; rfl)) ?_; (with_reducible refine (avocetref02_compare.calls t194 t196 t197 t195 t198 _ A12.out).mono ?_); rintro e w' ⟨rfl, ⟨nd, rfl⟩⟩; refine ⟨_, rfl, ?_⟩) | ((with_reducible refine gate_callee (f := 40) rfl ?_); refine goesL_ (some 44) rfl rfl Tryd.func40 (by kernel_rfl) rfl #[.bool t198] rfl (by (try simp only [List.map_toArray, List.map_cons, List.map_nil]); first | done | rfl | (simp only [List.length_drop, List.length_take]; rfl)) ?_; (with_reducible refine (avocetref02_yes.calls t198 t199 _ A13.out).mono ?_); rintro e w' ⟨rfl, ⟨nd, rfl⟩⟩; refine ⟨_, rfl, ?_⟩))
          go_ret3
          exact ⟨by first | rfl | (simp; done) | (simp [*]; done), by repeat (first | exact Drawn0.refl _ | apply Drawn0.step)⟩
        · rw [if_neg c11] at H
          have c11b0 : decide (t194 ≤ 10) = false := decide_eq_false c11
          clear c11
          by_cases c14 : t194 = 14
          · rw [if_pos c14] at H
            have c14b0 : (t194 == 14) = true := beq_iff_eq.mpr c14
            have c14b1 : (t194 != 14) = false := bne_eq_false_iff_eq.mpr c14
            clear c14
            replace H := Option.bind_eq_some_iff.mp H
            obtain ⟨t200, A150, H⟩ := H
            replace H : (some (t200, 0, true)) = some (r1, r2, r3) := H
            have A15 := Aside0.mk A150
            clear A150
            simp only [Option.some.injEq, Prod.mk.injEq] at H
            obtain ⟨rfl, rfl, rfl⟩ := H
            go_wp2_with (first | ((with_reducible refine gate_callee (f := 38) rfl ?_); refine goesL_ (some 32) rfl rfl Tryd.func38 (by kernel_rfl) rfl #[.int .u64 a1, .int .i64 t195] rfl (by (try simp only [List.map_toArray, List.map_cons, List.map_nil]); first | done | rfl | (simp only [List.length_drop, List.length_take]; rfl)) ?_; (with_reducible refine (avocetref02_low.calls a1 t195 t196 _ A9.out).mono ?_); rintro e w' ⟨rfl, ⟨nd, rfl⟩⟩; refine ⟨_, rfl, ?_⟩) | ((with_reducible refine gate_callee (f := 38) rfl ?_); refine goesL_ (some 35) rfl rfl Tryd.func38 (by kernel_rfl) rfl #[.int .u64 a2, .int .i64 t195] rfl (by (try simp only [List.map_toArray, List.map_cons, List.map_nil]); first | done | rfl | (simp only [List.length_drop, List.length_take]; rfl)) ?_; (with_reducible refine (avocetref02_low.calls a2 t195 t197 _ A10.out).mono ?_); rintro e w' ⟨rfl, ⟨nd, rfl⟩⟩; refine ⟨_, rfl, ?_⟩) | ((with_reducible refine gate_callee (f := 38) rfl ?_); refine goesL_ (some 52) rfl rfl Tryd.func38 (by kernel_rfl) rfl #[.int .u64 (IntKind.u64.wrap (t196 + t197)), .int .i64 t195] rfl (by (try simp only [List.map_toArray, List.map_cons, List.map_nil]); first | done | rfl | (simp only [List.length_drop, List.length_take]; rfl)) ?_; (with_reducible refine (avocetref02_low.calls (IntKind.u64.wrap (t196 + t197)) t195 t200 _ A15.out).mono ?_); rintro e w' ⟨rfl, ⟨nd, rfl⟩⟩; refine ⟨_, rfl, ?_⟩))
            go_ret3
            exact ⟨by first | rfl | (simp; done) | (simp [*]; done), by repeat (first | exact Drawn0.refl _ | apply Drawn0.step)⟩
          · rw [if_neg c14] at H
            have c14b0 : (t194 == 14) = false := beq_eq_false_iff_ne.mpr c14
            have c14b1 : (t194 != 14) = true := bne_iff_ne.mpr c14
            by_cases c16 : t194 = 15
            · rw [if_pos c16] at H
              have c16b0 : (t194 == 15) = true := beq_iff_eq.mpr c16
              have c16b1 : (t194 != 15) = false := bne_eq_false_iff_eq.mpr c16
              clear c16
              replace H := Option.bind_eq_some_iff.mp H
              obtain ⟨t201, A170, H⟩ := H
              replace H : (some (t201, 0, true)) = some (r1, r2, r3) := H
              have A17 := Aside0.mk A170
              clear A170
              simp only [Option.some.injEq, Prod.mk.injEq] at H
              obtain ⟨rfl, rfl, rfl⟩ := H
              go_wp2_with (first | ((with_reducible refine gate_callee (f := 38) rfl ?_); refine goesL_ (some 32) rfl rfl Tryd.func38 (by kernel_rfl) rfl #[.int .u64 a1, .int .i64 t195] rfl (by (try simp only [List.map_toArray, List.map_cons, List.map_nil]); first | done | rfl | (simp only [List.length_drop, List.length_take]; rfl)) ?_; (with_reducible refine (avocetref02_low.calls a1 t195 t196 _ A9.out).mono ?_); rintro e w' ⟨rfl, ⟨nd, rfl⟩⟩; refine ⟨_, rfl, ?_⟩) | ((with_reducible refine gate_callee (f := 38) rfl ?_); refine goesL_ (some 35) rfl rfl Tryd.func38 (by kernel_rfl) rfl #[.int .u64 a2, .int .i64 t195] rfl (by (try simp only [List.map_toArray, List.map_cons, List.map_nil]); first | done | rfl | (simp only [List.length_drop, List.length_take]; rfl)) ?_; (with_reducible refine (avocetref02_low.calls a2 t195 t197 _ A10.out).mono ?_); rintro e w' ⟨rfl, ⟨nd, rfl⟩⟩; refine ⟨_, rfl, ?_⟩) | ((with_reducible refine gate_callee (f := 38) rfl ?_); refine goesL_ (some 60) rfl rfl Tryd.func38 (by kernel_rfl) rfl #[.int .u64 (IntKind.u64.wrap (t196 - t197)), .int .i64 t195] rfl (by (try simp only [List.map_toArray, List.map_cons, List.map_nil]); first | done | rfl | (simp only [List.length_drop, List.length_take]; rfl)) ?_; (with_reducible refine (avocetref02_low.calls (IntKind.u64.wrap (t196 - t197)) t195 t201 _ A17.out).mono ?_); rintro e w' ⟨rfl, ⟨nd, rfl⟩⟩; refine ⟨_, rfl, ?_⟩))
              go_ret3
              exact ⟨by first | rfl | (simp; done) | (simp [*]; done), by repeat (first | exact Drawn0.refl _ | apply Drawn0.step)⟩
            · rw [if_neg c16] at H
              have c16b0 : (t194 == 15) = false := beq_eq_false_iff_ne.mpr c16
              have c16b1 : (t194 != 15) = true := bne_iff_ne.mpr c16
              by_cases c18 : t194 = 16
              · rw [if_pos c18] at H
                have c18b0 : (t194 == 16) = true := beq_iff_eq.mpr c18
                have c18b1 : (t194 != 16) = false := bne_eq_false_iff_eq.mpr c18
                clear c18
                replace H := Option.bind_eq_some_iff.mp H
                obtain ⟨t202, A190, H⟩ := H
                replace H : (some (t202, 0, true)) = some (r1, r2, r3) := H
                have A19 := Aside0.mk A190
                clear A190
                simp only [Option.some.injEq, Prod.mk.injEq] at H
                obtain ⟨rfl, rfl, rfl⟩ := H
                go_wp2_with (first | ((with_reducible refine gate_callee (f := 38) rfl ?_); refine goesL_ (some 32) rfl rfl Tryd.func38 (by kernel_rfl) rfl #[.int .u64 a1, .int .i64 t195] rfl (by (try simp only [List.map_toArray, List.map_cons, List.map_nil]); first | done | rfl | (simp only [List.length_drop, List.length_take]; rfl)) ?_; (with_reducible refine (avocetref02_low.calls a1 t195 t196 _ A9.out).mono ?_); rintro e w' ⟨rfl, ⟨nd, rfl⟩⟩; refine ⟨_, rfl, ?_⟩) | ((with_reducible refine gate_callee (f := 38) rfl ?_); refine goesL_ (some 35) rfl rfl Tryd.func38 (by kernel_rfl) rfl #[.int .u64 a2, .int .i64 t195] rfl (by (try simp only [List.map_toArray, List.map_cons, List.map_nil]); first | done | rfl | (simp only [List.length_drop, List.length_take]; rfl)) ?_; (with_reducible refine (avocetref02_low.calls a2 t195 t197 _ A10.out).mono ?_); rintro e w' ⟨rfl, ⟨nd, rfl⟩⟩; refine ⟨_, rfl, ?_⟩) | ((with_reducible refine gate_callee (f := 38) rfl ?_); refine goesL_ (some 68) rfl rfl Tryd.func38 (by kernel_rfl) rfl #[.int .u64 (IntKind.u64.wrap (t196 * t197)), .int .i64 t195] rfl (by (try simp only [List.map_toArray, List.map_cons, List.map_nil]); first | done | rfl | (simp only [List.length_drop, List.length_take]; rfl)) ?_; (with_reducible refine (avocetref02_low.calls (IntKind.u64.wrap (t196 * t197)) t195 t202 _ A19.out).mono ?_); rintro e w' ⟨rfl, ⟨nd, rfl⟩⟩; refine ⟨_, rfl, ?_⟩))
                go_ret3
                exact ⟨by first | rfl | (simp; done) | (simp [*]; done), by repeat (first | exact Drawn0.refl _ | apply Drawn0.step)⟩
              · rw [if_neg c18] at H
                have c18b0 : (t194 == 16) = false := beq_eq_false_iff_ne.mpr c18
                have c18b1 : (t194 != 16) = true := bne_iff_ne.mpr c18
                by_cases c20 : t194 ≤ 20
                · rw [if_pos c20] at H
                  have c20b0 : decide (t194 ≤ 20) = true := decide_eq_true c20
                  clear c20
                  replace H := Option.bind_eq_some_iff.mp H
                  obtain ⟨⟨t203, t204⟩, A210, H⟩ := H
                  replace H : (some (t203, t204, true)) = some (r1, r2, r3) := H
                  have A21 := Aside0.mk A210
                  clear A210
                  simp only [Option.some.injEq, Prod.mk.injEq] at H
                  obtain ⟨rfl, rfl, rfl⟩ := H
                  go_wp2_with (first | ((with_reducible refine gate_callee (f := 38) rfl ?_); refine goesL_ (some 32) rfl rfl Tryd.func38 (by kernel_rfl) rfl #[.int .u64 a1, .int .i64 t195] rfl (by (try simp only [List.map_toArray, List.map_cons, List.map_nil]); first | done | rfl | (simp only [List.length_drop, List.length_take]; rfl)) ?_; (with_reducible refine (avocetref02_low.calls a1 t195 t196 _ A9.out).mono ?_); rintro e w' ⟨rfl, ⟨nd, rfl⟩⟩; refine ⟨_, rfl, ?_⟩) | ((with_reducible refine gate_callee (f := 38) rfl ?_); refine goesL_ (some 35) rfl rfl Tryd.func38 (by kernel_rfl) rfl #[.int .u64 a2, .int .i64 t195] rfl (by (try simp only [List.map_toArray, List.map_cons, List.map_nil]); first | done | rfl | (simp only [List.length_drop, List.length_take]; rfl)) ?_; (with_reducible refine (avocetref02_low.calls a2 t195 t197 _ A10.out).mono ?_); rintro e w' ⟨rfl, ⟨nd, rfl⟩⟩; refine ⟨_, rfl, ?_⟩) | ((with_reducible refine gate_callee (f := 43) rfl ?_); refine goesL_ (some 78) rfl rfl Tryd.func43 (by kernel_rfl) rfl #[.int .i64 (wrap64 (t194 - 17)), .int .u64 t196, .int .u64 t197, .int .i64 t195] rfl (by (try simp only [List.map_toArray, List.map_cons, List.map_nil]); first | done | rfl | (simp only [List.length_drop, List.length_take]; rfl)) ?_; (with_reducible refine (avocetref02_divided.calls (wrap64 (t194 - 17)) t196 t197 t195 t203 t204 _ A21.out).mono ?_); rintro e w' ⟨rfl, ⟨nd, rfl⟩⟩; refine ⟨_, rfl, ?_⟩))
                  go_ret3
                  exact ⟨by first | rfl | (simp; done) | (simp [*]; done), by repeat (first | exact Drawn0.refl _ | apply Drawn0.step)⟩
                · rw [if_neg c20] at H
                  have c20b0 : decide (t194 ≤ 20) = false := decide_eq_false c20
                  clear c20
                  by_cases c22 : t194 = 21
                  · rw [if_pos c22] at H
                    have c22b0 : (t194 == 21) = true := beq_iff_eq.mpr c22
                    have c22b1 : (t194 != 21) = false := bne_eq_false_iff_eq.mpr c22
                    clear c22
                    simp only [Option.some.injEq, Prod.mk.injEq] at H
                    obtain ⟨rfl, rfl, rfl⟩ := H
                    go_wp2_with (first | ((with_reducible refine gate_callee (f := 38) rfl ?_); refine goesL_ (some 32) rfl rfl Tryd.func38 (by kernel_rfl) rfl #[.int .u64 a1, .int .i64 t195] rfl (by (try simp only [List.map_toArray, List.map_cons, List.map_nil]); first | done | rfl | (simp only [List.length_drop, List.length_take]; rfl)) ?_; (with_reducible refine (avocetref02_low.calls a1 t195 t196 _ A9.out).mono ?_); rintro e w' ⟨rfl, ⟨nd, rfl⟩⟩; refine ⟨_, rfl, ?_⟩) | ((with_reducible refine gate_callee (f := 38) rfl ?_); refine goesL_ (some 35) rfl rfl Tryd.func38 (by kernel_rfl) rfl #[.int .u64 a2, .int .i64 t195] rfl (by (try simp only [List.map_toArray, List.map_cons, List.map_nil]); first | done | rfl | (simp only [List.length_drop, List.length_take]; rfl)) ?_; (with_reducible refine (avocetref02_low.calls a2 t195 t197 _ A10.out).mono ?_); rintro e w' ⟨rfl, ⟨nd, rfl⟩⟩; refine ⟨_, rfl, ?_⟩))
                    go_ret3
                    exact ⟨by first | rfl | (simp; done) | (simp [*]; done), by repeat (first | exact Drawn0.refl _ | apply Drawn0.step)⟩
                  · rw [if_neg c22] at H
                    have c22b0 : (t194 == 21) = false := beq_eq_false_iff_ne.mpr c22
                    have c22b1 : (t194 != 21) = true := bne_iff_ne.mpr c22
                    by_cases c23 : t194 = 22
                    · rw [if_pos c23] at H
                      have c23b0 : (t194 == 22) = true := beq_iff_eq.mpr c23
                      have c23b1 : (t194 != 22) = false := bne_eq_false_iff_eq.mpr c23
                      clear c23
                      simp only [Option.some.injEq, Prod.mk.injEq] at H
                      obtain ⟨rfl, rfl, rfl⟩ := H
                      go_wp2_with (first | ((with_reducible refine gate_callee (f := 38) rfl ?_); refine goesL_ (some 32) rfl rfl Tryd.func38 (by kernel_rfl) rfl #[.int .u64 a1, .int .i64 t195] rfl (by (try simp only [List.map_toArray, List.map_cons, List.map_nil]); first | done | rfl | (simp only [List.length_drop, List.length_take]; rfl)) ?_; (with_reducible refine (avocetref02_low.calls a1 t195 t196 _ A9.out).mono ?_); rintro e w' ⟨rfl, ⟨nd, rfl⟩⟩; refine ⟨_, rfl, ?_⟩) | ((with_reducible refine gate_callee (f := 38) rfl ?_); refine goesL_ (some 35) rfl rfl Tryd.func38 (by kernel_rfl) rfl #[.int .u64 a2, .int .i64 t195] rfl (by (try simp only [List.map_toArray, List.map_cons, List.map_nil]); first | done | rfl | (simp only [List.length_drop, List.length_take]; rfl)) ?_; (with_reducible refine (avocetref02_low.calls a2 t195 t197 _ A10.out).mono ?_); rintro e w' ⟨rfl, ⟨nd, rfl⟩⟩; refine ⟨_, rfl, ?_⟩))
                      go_ret3
                      exact ⟨by first | rfl | (simp; done) | (simp [*]; done), by repeat (first | exact Drawn0.refl _ | apply Drawn0.step)⟩
                    · rw [if_neg c23] at H
                      have c23b0 : (t194 == 22) = false := beq_eq_false_iff_ne.mpr c23
                      have c23b1 : (t194 != 22) = true := bne_iff_ne.mpr c23
                      by_cases c24 : t194 = 23
                      · rw [if_pos c24] at H
                        have c24b0 : (t194 == 23) = true := beq_iff_eq.mpr c24
                        have c24b1 : (t194 != 23) = false := bne_eq_false_iff_eq.mpr c24
                        clear c24
                        simp only [Option.some.injEq, Prod.mk.injEq] at H
                        obtain ⟨rfl, rfl, rfl⟩ := H
                        go_wp2_with (first | ((with_reducible refine gate_callee (f := 38) rfl ?_); refine goesL_ (some 32) rfl rfl Tryd.func38 (by kernel_rfl) rfl #[.int .u64 a1, .int .i64 t195] rfl (by (try simp only [List.map_toArray, List.map_cons, List.map_nil]); first | done | rfl | (simp only [List.length_drop, List.length_take]; rfl)) ?_; (with_reducible refine (avocetref02_low.calls a1 t195 t196 _ A9.out).mono ?_); rintro e w' ⟨rfl, ⟨nd, rfl⟩⟩; refine ⟨_, rfl, ?_⟩) | ((with_reducible refine gate_callee (f := 38) rfl ?_); refine goesL_ (some 35) rfl rfl Tryd.func38 (by kernel_rfl) rfl #[.int .u64 a2, .int .i64 t195] rfl (by (try simp only [List.map_toArray, List.map_cons, List.map_nil]); first | done | rfl | (simp only [List.length_drop, List.length_take]; rfl)) ?_; (with_reducible refine (avocetref02_low.calls a2 t195 t197 _ A10.out).mono ?_); rintro e w' ⟨rfl, ⟨nd, rfl⟩⟩; refine ⟨_, rfl, ?_⟩))
                        go_ret3
                        exact ⟨by first | rfl | (simp; done) | (simp [*]; done), by repeat (first | exact Drawn0.refl _ | apply Drawn0.step)⟩
                      · rw [if_neg c24] at H
                        have c24b0 : (t194 == 23) = false := beq_eq_false_iff_ne.mpr c24
                        have c24b1 : (t194 != 23) = true := bne_iff_ne.mpr c24
                        by_cases c25 : (IntKind.u64.wrap (t195)) = 0
                        · rw [if_pos c25] at H
                          exact absurd H (by simp)
                        · rw [if_neg c25] at H
                          have c25b0 : ((IntKind.u64.wrap (t195)) == 0) = false := beq_eq_false_iff_ne.mpr c25
                          have c25b1 : ((IntKind.u64.wrap (t195)) != 0) = true := bne_iff_ne.mpr c25
                          replace H := Option.bind_eq_some_iff.mp H
                          obtain ⟨t205, A260, H⟩ := H
                          replace H : (some (t205, 0, true)) = some (r1, r2, r3) := H
                          have A26 := Aside0.mk A260
                          clear A260
                          simp only [Option.some.injEq, Prod.mk.injEq] at H
                          obtain ⟨rfl, rfl, rfl⟩ := H
                          go_wp2_with (first | ((with_reducible refine gate_callee (f := 38) rfl ?_); refine goesL_ (some 32) rfl rfl Tryd.func38 (by kernel_rfl) rfl #[.int .u64 a1, .int .i64 t195] rfl (by (try simp only [List.map_toArray, List.map_cons, List.map_nil]); first | done | rfl | (simp only [List.length_drop, List.length_take]; rfl)) ?_; (with_reducible refine (avocetref02_low.calls a1 t195 t196 _ A9.out).mono ?_); rintro e w' ⟨rfl, ⟨nd, rfl⟩⟩; refine ⟨_, rfl, ?_⟩) | ((with_reducible refine gate_callee (f := 38) rfl ?_); refine goesL_ (some 35) rfl rfl Tryd.func38 (by kernel_rfl) rfl #[.int .u64 a2, .int .i64 t195] rfl (by (try simp only [List.map_toArray, List.map_cons, List.map_nil]); first | done | rfl | (simp only [List.length_drop, List.length_take]; rfl)) ?_; (with_reducible refine (avocetref02_low.calls a2 t195 t197 _ A10.out).mono ?_); rintro e w' ⟨rfl, ⟨nd, rfl⟩⟩; refine ⟨_, rfl, ?_⟩) | ((with_reducible refine gate_callee (f := 44) rfl ?_); refine goesL_ (some 110) rfl rfl Tryd.func44 (by kernel_rfl) rfl #[.int .i64 (wrap64 (t194 - 24)), .int .u64 t196, .int .i64 (wrap64 (Int.tmod t197 (IntKind.u64.wrap (t195)))), .int .i64 t195] rfl (by (try simp only [List.map_toArray, List.map_cons, List.map_nil]); first | done | rfl | (simp only [List.length_drop, List.length_take]; rfl)) ?_; (with_reducible refine (avocetref02_turned.calls kj4 (wrap64 (t194 - 24)) t196 (wrap64 (Int.tmod t197 (IntKind.u64.wrap (t195)))) t195 t205 _ A26.out).mono ?_); rintro e w' ⟨rfl, ⟨nd, rfl⟩⟩; refine ⟨_, rfl, ?_⟩))
                          go_ret3
                          exact ⟨by first | rfl | (simp; done) | (simp [*]; done), by repeat (first | exact Drawn0.refl _ | apply Drawn0.step)⟩

/-! ### avocetlaw02_IntsDo: function 4 -/
def avocetlaw02_IntsDo.f (k : Nat) (a0 : Int) (a1 : Int) (a2 : Int) : Option (Bool) := (avocetlaw02_awake.f k).bind fun t206 => ((ints_One.f k a0 a1).bind fun bt207 => ((avocetref02_One.f k a0 a1).bind fun bt209 => ((ints_Two.f a0 a1 a2).bind fun bt211 => ((avocetref02_Two.f k a0 a1 a2).bind fun bt214 => (if t206 = true then (if bt207.1 = bt209.1 then (if (bt207.2 == bt209.2) = true then (if bt211.1 = bt214.1 then (if bt211.2.1 = bt214.2.1 then (some (bt211.2.2 == bt214.2.2)) else (some false)) else (some false)) else (some false)) else (some false)) else (some false))))))
theorem avocetlaw02_IntsDo.mono : ∀ a0 a1 a2 k, LeO (avocetlaw02_IntsDo.f k a0 a1 a2) (avocetlaw02_IntsDo.f (k + 1) a0 a1 a2) := by
  intro a0 a1 a2 k
  unfold avocetlaw02_IntsDo.f
  repeat' first
      | (with_reducible exact avocetlaw02_awake.mono _)
      | (with_reducible exact avocetref02_One.mono _ _ _)
      | (with_reducible exact avocetref02_Two.mono _ _ _ _)
      | (with_reducible exact ints_One.mono _ _ _)
      | (with_reducible exact LeO.refl _)
      | (with_reducible exact LeO.none _)
      | (with_reducible refine LeO.ite ?_ ?_)
      | (with_reducible refine LeO.bind ?_ (fun _ => ?_))
      | exact avocetlaw02_awake.mono _
      | exact avocetref02_One.mono _ _ _
      | exact avocetref02_Two.mono _ _ _ _
      | exact ints_One.mono _ _ _
      | exact LeO.none _
      | refine LeO.ite ?_ ?_
      | refine LeO.bind ?_ (fun _ => ?_)
set_option maxHeartbeats 8000000 in
set_option maxRecDepth 100000 in
theorem avocetlaw02_IntsDo.calls (k : Nat) (a0 : Int) (a1 : Int) (a2 : Int) (r : Bool) (w : World) (hG : Globs w) (hr_ : r = true) (h : avocetlaw02_IntsDo.f k a0 a1 a2 = some r) :
    Calls Tryd.prog 4 #[.int .i64 a0, .int .u64 a1, .int .u64 a2] w fun e w' => e = .returned (.bool r) ∧ Below w.heap.size w w' := by
  have HRT_ := Aside0.mk hr_
  clear hr_
  have HG := Aside0.mk hG
  clear hG
  have HB := Aside0.mk (Below.refl w.heap.size w)
  have H : ((avocetlaw02_awake.f k).bind fun t206 => ((ints_One.f k a0 a1).bind fun bt207 => ((avocetref02_One.f k a0 a1).bind fun bt209 => ((ints_Two.f a0 a1 a2).bind fun bt211 => ((avocetref02_Two.f k a0 a1 a2).bind fun bt214 => (if t206 = true then (if bt207.1 = bt209.1 then (if (bt207.2 == bt209.2) = true then (if bt211.1 = bt214.1 then (if bt211.2.1 = bt214.2.1 then (some (bt211.2.2 == bt214.2.2)) else (some false)) else (some false)) else (some false)) else (some false)) else (some false))))))) = some r := h
  clear h
  replace H := Option.bind_eq_some_iff.mp H
  obtain ⟨t206, A40, H⟩ := H
  replace H : ((ints_One.f k a0 a1).bind fun bt207 => ((avocetref02_One.f k a0 a1).bind fun bt209 => ((ints_Two.f a0 a1 a2).bind fun bt211 => ((avocetref02_Two.f k a0 a1 a2).bind fun bt214 => (if t206 = true then (if bt207.1 = bt209.1 then (if (bt207.2 == bt209.2) = true then (if bt211.1 = bt214.1 then (if bt211.2.1 = bt214.2.1 then (some (bt211.2.2 == bt214.2.2)) else (some false)) else (some false)) else (some false)) else (some false)) else (some false)))))) = some r := H
  have A4 := Aside0.mk A40
  clear A40
  replace H := Option.bind_eq_some_iff.mp H
  obtain ⟨⟨t207, t208⟩, A50, H⟩ := H
  replace H : ((avocetref02_One.f k a0 a1).bind fun bt209 => ((ints_Two.f a0 a1 a2).bind fun bt211 => ((avocetref02_Two.f k a0 a1 a2).bind fun bt214 => (if t206 = true then (if t207 = bt209.1 then (if (t208 == bt209.2) = true then (if bt211.1 = bt214.1 then (if bt211.2.1 = bt214.2.1 then (some (bt211.2.2 == bt214.2.2)) else (some false)) else (some false)) else (some false)) else (some false)) else (some false))))) = some r := H
  have A5 := Aside0.mk A50
  clear A50
  replace H := Option.bind_eq_some_iff.mp H
  obtain ⟨⟨t209, t210⟩, A60, H⟩ := H
  replace H : ((ints_Two.f a0 a1 a2).bind fun bt211 => ((avocetref02_Two.f k a0 a1 a2).bind fun bt214 => (if t206 = true then (if t207 = t209 then (if (t208 == t210) = true then (if bt211.1 = bt214.1 then (if bt211.2.1 = bt214.2.1 then (some (bt211.2.2 == bt214.2.2)) else (some false)) else (some false)) else (some false)) else (some false)) else (some false)))) = some r := H
  have A6 := Aside0.mk A60
  clear A60
  replace H := Option.bind_eq_some_iff.mp H
  obtain ⟨⟨t211, t212, t213⟩, A70, H⟩ := H
  replace H : ((avocetref02_Two.f k a0 a1 a2).bind fun bt214 => (if t206 = true then (if t207 = t209 then (if (t208 == t210) = true then (if t211 = bt214.1 then (if t212 = bt214.2.1 then (some (t213 == bt214.2.2)) else (some false)) else (some false)) else (some false)) else (some false)) else (some false))) = some r := H
  have A7 := Aside0.mk A70
  clear A70
  replace H := Option.bind_eq_some_iff.mp H
  obtain ⟨⟨t214, t215, t216⟩, A80, H⟩ := H
  replace H : (if t206 = true then (if t207 = t209 then (if (t208 == t210) = true then (if t211 = t214 then (if t212 = t215 then (some (t213 == t216)) else (some false)) else (some false)) else (some false)) else (some false)) else (some false)) = some r := H
  have A8 := Aside0.mk A80
  clear A80
  by_cases c9 : t206 = true
  · subst c9
    have H1 : (if t207 = t209 then (if (t208 == t210) = true then (if t211 = t214 then (if t212 = t215 then (some (t213 == t216)) else (some false)) else (some false)) else (some false)) else (some false)) = some r := by rw [if_pos rfl] at H; exact H
    clear H
    have H := H1
    clear H1
    by_cases c10 : t207 = t209
    · rw [if_pos c10] at H
      have c10b0 : (t207 == t209) = true := beq_iff_eq.mpr c10
      have c10b1 : (t207 != t209) = false := bne_eq_false_iff_eq.mpr c10
      clear c10
      by_cases c11 : (t208 == t210) = true
      · rw [if_pos c11] at H
        have c11b0 : (t208 == t210) = true := c11
        (try (have c11b1 : decide (t208 = t210) = true := by simpa using c11))
        (try (have c11b2 : (t208 == t210) = true := by simpa using c11))
        clear c11
        by_cases c12 : t211 = t214
        · rw [if_pos c12] at H
          have c12b0 : (t211 == t214) = true := beq_iff_eq.mpr c12
          have c12b1 : (t211 != t214) = false := bne_eq_false_iff_eq.mpr c12
          clear c12
          by_cases c13 : t212 = t215
          · rw [if_pos c13] at H
            have c13b0 : (t212 == t215) = true := beq_iff_eq.mpr c13
            have c13b1 : (t212 != t215) = false := bne_eq_false_iff_eq.mpr c13
            clear c13
            obtain rfl := Option.some.inj H
            go_enter Tryd.func4, Tryd.ntmps4
            go_wp2_with (first | ((with_reducible refine gate_callee (f := 13) rfl ?_); refine goesL_ (some 18) rfl rfl Tryd.func13 (by kernel_rfl) rfl #[] rfl (by (try simp only [List.map_toArray, List.map_cons, List.map_nil]); first | done | rfl | (simp only [List.length_drop, List.length_take]; rfl)) ?_; (with_reducible refine (avocetlaw02_awake.calls k  true _ ?side1 A4.out).mono ?_); (case side1 => first | exact Globs.below HG.out HB.out | exact Globs.below HG.out (by repeat (first | (with_reducible first | exact HB.out | apply below_alloc | apply pw_below_drewN | apply below_drew1) | exact HB.out)) | (repeat (first | exact HG.out | (with_reducible refine Globs.alloc ?_ _) | (with_reducible refine Globs.drewN ?_ _) | (with_reducible refine Globs.drew ?_)))); rintro e w14 ⟨rfl, hb⟩; refine ⟨_, rfl, ?_⟩; have n0_ := Aside0.mk (below_step (by repeat (first | (with_reducible first | exact HB.out | apply below_alloc | apply pw_below_drewN | apply below_drew1) | exact HB.out)) hb); clear HB; have HB := n0_; clear n0_; (try clear hb); (try clear hb2); (try clear hk); (try clear hi)) | ((with_reducible refine gate_callee (f := 15) rfl ?_); refine goesL_ (some 22) rfl rfl Tryd.func15 (by kernel_rfl) rfl #[.int .i64 a0, .int .u64 a1] rfl (by (try simp only [List.map_toArray, List.map_cons, List.map_nil]); first | done | rfl | (simp only [List.length_drop, List.length_take]; rfl)) ?_; (with_reducible refine (ints_One.calls k a0 a1 t207 t208 _ ?side1 A5.out).mono ?_); (case side1 => first | exact Globs.below HG.out HB.out | exact Globs.below HG.out (by repeat (first | (with_reducible first | exact HB.out | apply below_alloc | apply pw_below_drewN | apply below_drew1) | exact HB.out)) | (repeat (first | exact HG.out | (with_reducible refine Globs.alloc ?_ _) | (with_reducible refine Globs.drewN ?_ _) | (with_reducible refine Globs.drew ?_)))); rintro e w' ⟨rfl, ⟨nd, rfl⟩⟩; refine ⟨_, rfl, ?_⟩) | ((with_reducible refine gate_callee (f := 18) rfl ?_); refine goesL_ (some 28) rfl rfl Tryd.func18 (by kernel_rfl) rfl #[.int .i64 a0, .int .u64 a1] rfl (by (try simp only [List.map_toArray, List.map_cons, List.map_nil]); first | done | rfl | (simp only [List.length_drop, List.length_take]; rfl)) ?_; (with_reducible refine (avocetref02_One.calls k a0 a1 t209 t210 _ A6.out).mono ?_); rintro e w' ⟨rfl, ⟨nd, rfl⟩⟩; refine ⟨_, rfl, ?_⟩) | ((with_reducible refine gate_callee (f := 16) rfl ?_); refine goesL_ (some 35) rfl rfl Tryd.func16 (by kernel_rfl) rfl #[.int .i64 a0, .int .u64 a1, .int .u64 a2] rfl (by (try simp only [List.map_toArray, List.map_cons, List.map_nil]); first | done | rfl | (simp only [List.length_drop, List.length_take]; rfl)) ?_; (with_reducible refine (ints_Two.calls a0 a1 a2 t211 t212 t213 _ A7.out).mono ?_); rintro e w15 ⟨rfl, hb⟩; refine ⟨_, rfl, ?_⟩; have n0_ := Aside0.mk (below_step (by repeat (first | (with_reducible first | exact HB.out | apply below_alloc | apply pw_below_drewN | apply below_drew1) | exact HB.out)) hb); clear HB; have HB := n0_; clear n0_; (try clear hb); (try clear hb2); (try clear hk); (try clear hi)) | ((with_reducible refine gate_callee (f := 19) rfl ?_); refine goesL_ (some 43) rfl rfl Tryd.func19 (by kernel_rfl) rfl #[.int .i64 a0, .int .u64 a1, .int .u64 a2] rfl (by (try simp only [List.map_toArray, List.map_cons, List.map_nil]); first | done | rfl | (simp only [List.length_drop, List.length_take]; rfl)) ?_; (with_reducible refine (avocetref02_Two.calls k a0 a1 a2 t214 t215 t216 _ A8.out).mono ?_); rintro e w' ⟨rfl, ⟨nd, rfl⟩⟩; refine ⟨_, rfl, ?_⟩))
            go_ret
            exact ⟨by first | rfl | (simp [errW_none, errW_some] <;> rfl) | (simp [*, errW_none, errW_some] <;> rfl), by repeat (first | (with_reducible first | exact HB.out | apply below_alloc | apply pw_below_drewN | apply below_drew1) | exact HB.out)⟩
          · rw [if_neg c13] at H
            have c13b0 : (t212 == t215) = false := beq_eq_false_iff_ne.mpr c13
            have c13b1 : (t212 != t215) = true := bne_iff_ne.mpr c13
            exact absurd ((Option.some.inj H).trans HRT_.out) (by decide)
        · rw [if_neg c12] at H
          have c12b0 : (t211 == t214) = false := beq_eq_false_iff_ne.mpr c12
          have c12b1 : (t211 != t214) = true := bne_iff_ne.mpr c12
          exact absurd ((Option.some.inj H).trans HRT_.out) (by decide)
      · rw [if_neg c11] at H
        have c11b0 : (t208 == t210) = false := by simpa using c11
        (try (have c11b1 : decide (t208 = t210) = false := by simpa using c11))
        (try (have c11b2 : (t208 == t210) = false := by simpa using c11))
        (try (have c11b3 : ¬ (t208 = t210) := by simpa using c11))
        clear c11
        exact absurd ((Option.some.inj H).trans HRT_.out) (by decide)
    · rw [if_neg c10] at H
      have c10b0 : (t207 == t209) = false := beq_eq_false_iff_ne.mpr c10
      have c10b1 : (t207 != t209) = true := bne_iff_ne.mpr c10
      exact absurd ((Option.some.inj H).trans HRT_.out) (by decide)
  · replace c9 := Bool.eq_false_iff.mpr c9
    subst c9
    have H1 : (some false) = some r := by rw [if_neg (show ¬ (false = true) by decide)] at H; exact H
    clear H
    have H := H1
    clear H1
    exact absurd ((Option.some.inj H).trans HRT_.out) (by decide)

/-- THE ONE PURE STATEMENT of avocetlaw02_IntsDo: yours. -/
def avocetlaw02_IntsDo.Pure : Prop := ∀ (a0 : Int) (a1 : Int) (a2 : Int), (Lit.int .i64 a0).wf = true → (Lit.int .u64 a1).wf = true → (Lit.int .u64 a2).wf = true → ∃ k, avocetlaw02_IntsDo.f k a0 a1 a2 = some true
theorem avocetlaw02_IntsDo.walk (P : avocetlaw02_IntsDo.Pure) (a0 : Int) (a1 : Int) (a2 : Int) (w : World) (hG : Globs w) (w0 : (Lit.int .i64 a0).wf = true) (w1 : (Lit.int .u64 a1).wf = true) (w2 : (Lit.int .u64 a2).wf = true) :
    Calls Tryd.prog 4 #[.int .i64 a0, .int .u64 a1, .int .u64 a2] w fun e w' => e = .returned (.bool true) ∧ Below w.heap.size w w' := by
  obtain ⟨k, h⟩ := P a0 a1 a2 w0 w1 w2
  refine (avocetlaw02_IntsDo.calls k a0 a1 a2 true w hG rfl h).mono ?_
  rintro e w' ⟨rfl, hd⟩
  exact ⟨rfl, hd⟩

end Go.Proofs.YtjonlcnmpejamaaDoor.G
