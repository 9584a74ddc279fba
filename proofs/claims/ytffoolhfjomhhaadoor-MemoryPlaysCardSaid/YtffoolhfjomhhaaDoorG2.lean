-- Made by gprint.py (mine) over the kit's print.py, out of the translation; parts of it typed by hand.
import Derived.Test.YtffoolhfjomhhaaDoorG0
namespace Go.Proofs.YtffoolhfjomhhaaDoor.G
open Go.RowKit Go.Proofs.YtffoolhfjomhhaaDoorW.PrintWords Go.Proofs.YtffoolhfjomhhaaDoorW.PrintLast Go.Proofs.YtffoolhfjomhhaaDoorW.PrintMore
attribute [local go_sem] max2_int min2_int max_two min_two max_three min_three max_four min_four   -- for this text's walks alone
set_option linter.unusedVariables false
set_option linter.unusedSimpArgs false

/-! ### avocetref05_Access: function 39 -/
mutual
def avocetref05_Access.j0 : Nat → Int → Int → Bool → Option (Int × Int × Bool × Bool)
  | 0, _, _, _ => none
  | k + 1, x0, x6, x11 => if x11 = true then (some (127, 1, (x0 == 44), false)) else (if x6 = 46 then (avocetref05_Access.j1 k x0 x6 (x6 == 46)) else (avocetref05_Access.j1 k x0 x6 (x6 == 47)))
def avocetref05_Access.j1 : Nat → Int → Int → Bool → Option (Int × Int × Bool × Bool)
  | 0, _, _, _ => none
  | k + 1, x0, x6, x16 => if x16 = true then (some (127, 2, (x0 == 46), false)) else (if x6 = 48 then (avocetref05_Access.j2 k x0 x6 (x6 == 48)) else (avocetref05_Access.j2 k x0 x6 (x6 == 49)))
def avocetref05_Access.j2 : Nat → Int → Int → Bool → Option (Int × Int × Bool × Bool)
  | 0, _, _, _ => none
  | k + 1, x0, x6, x21 => if x21 = true then (some (126, 1, (x0 == 48), false)) else (if x6 = 50 then (avocetref05_Access.j3 k x0 x6 (x6 == 50)) else (avocetref05_Access.j3 k x0 x6 (x6 == 51)))
def avocetref05_Access.j3 : Nat → Int → Int → Bool → Option (Int × Int × Bool × Bool)
  | 0, _, _, _ => none
  | k + 1, x0, x6, x26 => if x26 = true then (some (126, 2, (x0 == 50), false)) else (if x6 = 52 then (avocetref05_Access.j4 k x0 x6 (x6 == 52)) else (avocetref05_Access.j4 k x0 x6 (x6 == 53)))
def avocetref05_Access.j4 : Nat → Int → Int → Bool → Option (Int × Int × Bool × Bool)
  | 0, _, _, _ => none
  | k + 1, x0, x6, x31 => if x31 = true then (some (126, 4, (x0 == 52), false)) else (if x6 = 54 then (some (127, 4, false, true)) else (if x6 = 55 then (some (126, 8, false, true)) else (if x6 = 58 then (some (127, 1, false, true)) else (if x6 = 59 then (some (127, 2, false, true)) else (if x6 = 60 then (some (126, 1, false, true)) else (if x6 = 61 then (some (126, 2, false, true)) else (if x6 = 62 then (some (126, 4, false, true)) else (some (0, 0, false, false)))))))))
end
def avocetref05_Access.f (k : Nat) (a0 : Int) : Option (Int × Int × Bool × Bool) := if a0 = 40 then (some (127, 4, false, false)) else (if a0 = 41 then (some (126, 8, false, false)) else (if a0 = 44 then (avocetref05_Access.j0 k a0 a0 (a0 == 44)) else (avocetref05_Access.j0 k a0 a0 (a0 == 45))))
theorem avocetref05_Access.mono_l : ∀ k, (∀ y0 y1 y2, LeO (avocetref05_Access.j0 k y0 y1 y2) (avocetref05_Access.j0 (k + 1) y0 y1 y2)) ∧ (∀ y0 y1 y2, LeO (avocetref05_Access.j1 k y0 y1 y2) (avocetref05_Access.j1 (k + 1) y0 y1 y2)) ∧ (∀ y0 y1 y2, LeO (avocetref05_Access.j2 k y0 y1 y2) (avocetref05_Access.j2 (k + 1) y0 y1 y2)) ∧ (∀ y0 y1 y2, LeO (avocetref05_Access.j3 k y0 y1 y2) (avocetref05_Access.j3 (k + 1) y0 y1 y2)) ∧ (∀ y0 y1 y2, LeO (avocetref05_Access.j4 k y0 y1 y2) (avocetref05_Access.j4 (k + 1) y0 y1 y2))
  | 0 => ⟨fun _ _ _ r h => by simp [avocetref05_Access.j0] at h, fun _ _ _ r h => by simp [avocetref05_Access.j1] at h, fun _ _ _ r h => by simp [avocetref05_Access.j2] at h, fun _ _ _ r h => by simp [avocetref05_Access.j3] at h, fun _ _ _ r h => by simp [avocetref05_Access.j4] at h⟩
  | k + 1 => by
    obtain ⟨ih0, ih1, ih2, ih3, ih4⟩ := avocetref05_Access.mono_l k
    refine ⟨?_, ?_, ?_, ?_, ?_⟩
    · intro y0 y1 y2
      unfold avocetref05_Access.j0
      repeat' first
      | (with_reducible exact ih0 _ _ _)
      | (with_reducible exact ih1 _ _ _)
      | (with_reducible exact ih2 _ _ _)
      | (with_reducible exact ih3 _ _ _)
      | (with_reducible exact ih4 _ _ _)
      | (with_reducible exact LeO.refl _)
      | (with_reducible exact LeO.none _)
      | (with_reducible refine LeO.ite ?_ ?_)
      | (with_reducible refine LeO.bind ?_ (fun _ => ?_))
      | exact ih0 _ _ _
      | exact ih1 _ _ _
      | exact ih2 _ _ _
      | exact ih3 _ _ _
      | exact ih4 _ _ _
      | exact LeO.none _
      | refine LeO.ite ?_ ?_
      | refine LeO.bind ?_ (fun _ => ?_)
    · intro y0 y1 y2
      unfold avocetref05_Access.j1
      repeat' first
      | (with_reducible exact ih0 _ _ _)
      | (with_reducible exact ih1 _ _ _)
      | (with_reducible exact ih2 _ _ _)
      | (with_reducible exact ih3 _ _ _)
      | (with_reducible exact ih4 _ _ _)
      | (with_reducible exact LeO.refl _)
      | (with_reducible exact LeO.none _)
      | (with_reducible refine LeO.ite ?_ ?_)
      | (with_reducible refine LeO.bind ?_ (fun _ => ?_))
      | exact ih0 _ _ _
      | exact ih1 _ _ _
      | exact ih2 _ _ _
      | exact ih3 _ _ _
      | exact ih4 _ _ _
      | exact LeO.none _
      | refine LeO.ite ?_ ?_
      | refine LeO.bind ?_ (fun _ => ?_)
    · intro y0 y1 y2
      unfold avocetref05_Access.j2
      repeat' first
      | (with_reducible exact ih0 _ _ _)
      | (with_reducible exact ih1 _ _ _)
      | (with_reducible exact ih2 _ _ _)
      | (with_reducible exact ih3 _ _ _)
      | (with_reducible exact ih4 _ _ _)
      | (with_reducible exact LeO.refl _)
      | (with_reducible exact LeO.none _)
      | (with_reducible refine LeO.ite ?_ ?_)
      | (with_reducible refine LeO.bind ?_ (fun _ => ?_))
      | exact ih0 _ _ _
      | exact ih1 _ _ _
      | exact ih2 _ _ _
      | exact ih3 _ _ _
      | exact ih4 _ _ _
      | exact LeO.none _
      | refine LeO.ite ?_ ?_
      | refine LeO.bind ?_ (fun _ => ?_)
    · intro y0 y1 y2
      unfold avocetref05_Access.j3
      repeat' first
      | (with_reducible exact ih0 _ _ _)
      | (with_reducible exact ih1 _ _ _)
      | (with_reducible exact ih2 _ _ _)
      | (with_reducible exact ih3 _ _ _)
      | (with_reducible exact ih4 _ _ _)
      | (with_reducible exact LeO.refl _)
      | (with_reducible exact LeO.none _)
      | (with_reducible refine LeO.ite ?_ ?_)
      | (with_reducible refine LeO.bind ?_ (fun _ => ?_))
      | exact ih0 _ _ _
      | exact ih1 _ _ _
      | exact ih2 _ _ _
      | exact ih3 _ _ _
      | exact ih4 _ _ _
      | exact LeO.none _
      | refine LeO.ite ?_ ?_
      | refine LeO.bind ?_ (fun _ => ?_)
    · intro y0 y1 y2
      unfold avocetref05_Access.j4
      repeat' first
      | (with_reducible exact ih0 _ _ _)
      | (with_reducible exact ih1 _ _ _)
      | (with_reducible exact ih2 _ _ _)
      | (with_reducible exact ih3 _ _ _)
      | (with_reducible exact ih4 _ _ _)
      | (with_reducible exact LeO.refl _)
      | (with_reducible exact LeO.none _)
      | (with_reducible refine LeO.ite ?_ ?_)
      | (with_reducible refine LeO.bind ?_ (fun _ => ?_))
      | exact ih0 _ _ _
      | exact ih1 _ _ _
      | exact ih2 _ _ _
      | exact ih3 _ _ _
      | exact ih4 _ _ _
      | exact LeO.none _
      | refine LeO.ite ?_ ?_
      | refine LeO.bind ?_ (fun _ => ?_)
theorem avocetref05_Access.mono : ∀ a0 k, LeO (avocetref05_Access.f k a0) (avocetref05_Access.f (k + 1) a0) := by
  intro a0 k
  obtain ⟨ih0, ih1, ih2, ih3, ih4⟩ := avocetref05_Access.mono_l k
  unfold avocetref05_Access.f
  repeat' first
      | (with_reducible exact ih0 _ _ _)
      | (with_reducible exact ih1 _ _ _)
      | (with_reducible exact ih2 _ _ _)
      | (with_reducible exact ih3 _ _ _)
      | (with_reducible exact ih4 _ _ _)
      | (with_reducible exact LeO.refl _)
      | (with_reducible exact LeO.none _)
      | (with_reducible refine LeO.ite ?_ ?_)
      | (with_reducible refine LeO.bind ?_ (fun _ => ?_))
      | exact ih0 _ _ _
      | exact ih1 _ _ _
      | exact ih2 _ _ _
      | exact ih3 _ _ _
      | exact ih4 _ _ _
      | exact LeO.none _
      | refine LeO.ite ?_ ?_
      | refine LeO.bind ?_ (fun _ => ?_)
set_option maxHeartbeats 8000000 in
set_option maxRecDepth 100000 in
theorem avocetref05_Access.calls (k : Nat) (a0 : Int) (r1 : Int) (r2 : Int) (r3 : Bool) (r4 : Bool) (w : World) (h : avocetref05_Access.f k a0 = some (r1, r2, r3, r4)) :
    Calls Tryd.prog 39 #[.int .i64 a0] w fun e w' => e = .returned (.tuple #[.int .u8 r1, .int .i64 r2, .bool r3, .bool r4]) ∧ Drawn0 w w' := by
  have H : (if a0 = 40 then (some (127, 4, false, false)) else (if a0 = 41 then (some (126, 8, false, false)) else (if a0 = 44 then (avocetref05_Access.j0 k a0 a0 (a0 == 44)) else (avocetref05_Access.j0 k a0 a0 (a0 == 45))))) = some (r1, r2, r3, r4) := h
  clear h
  by_cases c2 : a0 = 40
  · rw [if_pos c2] at H
    have c2b0 : (a0 == 40) = true := beq_iff_eq.mpr c2
    have c2b1 : (a0 != 40) = false := bne_eq_false_iff_eq.mpr c2
    clear c2
    simp only [Option.some.injEq, Prod.mk.injEq] at H
    obtain ⟨rfl, rfl, rfl, rfl⟩ := H
    go_enter Tryd.func39, Tryd.ntmps39
    go_wp2
    refine bodyPost_ret (results_list (rs := [.tmp 2, .tmp 3, .tmp 4, .tmp 5]) rfl (by simp) (.tmp (.tmp (.tmp (.tmp .nil))))) rfl ?_
    exact ⟨by first | rfl | (simp; done) | (simp [*]; done), by repeat (first | exact Drawn0.refl _ | apply Drawn0.step)⟩
  · rw [if_neg c2] at H
    have c2b0 : (a0 == 40) = false := beq_eq_false_iff_ne.mpr c2
    have c2b1 : (a0 != 40) = true := bne_iff_ne.mpr c2
    by_cases c3 : a0 = 41
    · rw [if_pos c3] at H
      have c3b0 : (a0 == 41) = true := beq_iff_eq.mpr c3
      have c3b1 : (a0 != 41) = false := bne_eq_false_iff_eq.mpr c3
      clear c3
      simp only [Option.some.injEq, Prod.mk.injEq] at H
      obtain ⟨rfl, rfl, rfl, rfl⟩ := H
      go_enter Tryd.func39, Tryd.ntmps39
      go_wp2
      refine bodyPost_ret (results_list (rs := [.tmp 2, .tmp 3, .tmp 4, .tmp 5]) rfl (by simp) (.tmp (.tmp (.tmp (.tmp .nil))))) rfl ?_
      exact ⟨by first | rfl | (simp; done) | (simp [*]; done), by repeat (first | exact Drawn0.refl _ | apply Drawn0.step)⟩
    · rw [if_neg c3] at H
      have c3b0 : (a0 == 41) = false := beq_eq_false_iff_ne.mpr c3
      have c3b1 : (a0 != 41) = true := bne_iff_ne.mpr c3
      have HC4 := Aside0.mk H
      clear H
      go_enter Tryd.func39, Tryd.ntmps39
      go_upto_if 11 with (fail)
      go_cut [11] (fun v11 wc => ∃ (kq : Nat) (x11_3 : Bool), v11 = .bool x11_3 ∧ Aside0 (avocetref05_Access.j0 kq a0 a0 x11_3 = some (r1, r2, r3, r4)) ∧ Aside0 (kq ≤ k) ∧ Drawn0 w wc)
      case first =>
        have H := HC4.out
        clear HC4
        by_cases c5 : a0 = 44
        · rw [if_pos c5] at H
          have c5b0 : (a0 == 44) = true := beq_iff_eq.mpr c5
          have c5b1 : (a0 != 44) = false := bne_eq_false_iff_eq.mpr c5
          clear c5
          (first | rw [c5b0] | (simp only [i64_w, i32_w]; rw [c5b0]) | skip)
          have H' := Aside0.mk H
          clear H
          go_wp2
          go_meet
          case rel => exact ⟨_, ((a0 == 44)), (by first | rfl | (simp; done) | (simp [*]; done)), H', ⟨by first | omega | exact Nat.le_refl _⟩, by repeat (first | exact Drawn0.refl _ | apply Drawn0.step)⟩
        · rw [if_neg c5] at H
          have c5b0 : (a0 == 44) = false := beq_eq_false_iff_ne.mpr c5
          have c5b1 : (a0 != 44) = true := bne_iff_ne.mpr c5
          (first | rw [c5b0] | (simp only [i64_w, i32_w]; rw [c5b0]) | skip)
          have H' := Aside0.mk H
          clear H
          go_wp2
          go_meet
          case rel => exact ⟨_, ((a0 == 45)), (by first | rfl | (simp; done) | (simp [*]; done)), H', ⟨by first | omega | exact Nat.le_refl _⟩, by repeat (first | exact Drawn0.refl _ | apply Drawn0.step)⟩
      case rest =>
        clear HC4
        try clear c2
        try clear c2b0
        try clear c2b1
        try clear p2
        try clear c3
        try clear c3b0
        try clear c3b1
        try clear c5
        try clear c5b0
        try clear c5b1
        obtain ⟨kq, x11_3, rfl, HA, HJ3, ⟨mc3, rfl⟩⟩ := hcut
        cases kq with
        | zero => exact absurd HA.out (by simp [avocetref05_Access.j0])
        | succ kj3 =>
          have H := HA.out
          clear HA
          simp only [avocetref05_Access.j0] at H
          by_cases c6 : x11_3 = true
          · subst c6
            have H1 : (some (127, 1, (a0 == 44), false)) = some (r1, r2, r3, r4) := by rw [if_pos rfl] at H; exact H
            clear H
            have H := H1
            clear H1
            simp only [Option.some.injEq, Prod.mk.injEq] at H
            obtain ⟨rfl, rfl, rfl, rfl⟩ := H
            go_wp2
            refine bodyPost_ret (results_list (rs := [.tmp 2, .tmp 3, .tmp 4, .tmp 5]) rfl (by simp) (.tmp (.tmp (.tmp (.tmp .nil))))) rfl ?_
            exact ⟨by first | rfl | (simp; done) | (simp [*]; done), by repeat (first | exact Drawn0.refl _ | apply Drawn0.step)⟩
          · replace c6 := Bool.eq_false_iff.mpr c6
            subst c6
            have H1 : (if a0 = 46 then (avocetref05_Access.j1 kj3 a0 a0 (a0 == 46)) else (avocetref05_Access.j1 kj3 a0 a0 (a0 == 47))) = some (r1, r2, r3, r4) := by rw [if_neg (show ¬ (false = true) by decide)] at H; exact H
            clear H
            have H := H1
            clear H1
            have HC7 := Aside0.mk H
            clear H
            go_upto_if 16 with (fail)
            go_cut [16] (fun v16 wc => ∃ (kq : Nat) (x16_6 : Bool), v16 = .bool x16_6 ∧ Aside0 (avocetref05_Access.j1 kq a0 a0 x16_6 = some (r1, r2, r3, r4)) ∧ Aside0 (kq ≤ kj3) ∧ Drawn0 w wc)
            case first =>
              have H := HC7.out
              clear HC7
              by_cases c8 : a0 = 46
              · rw [if_pos c8] at H
                have c8b0 : (a0 == 46) = true := beq_iff_eq.mpr c8
                have c8b1 : (a0 != 46) = false := bne_eq_false_iff_eq.mpr c8
                clear c8
                (first | rw [c8b0] | (simp only [i64_w, i32_w]; rw [c8b0]) | skip)
                have H' := Aside0.mk H
                clear H
                go_wp2
                go_meet
                case rel => exact ⟨_, ((a0 == 46)), (by first | rfl | (simp; done) | (simp [*]; done)), H', ⟨by have := HJ3.out; first | omega | exact Nat.le_refl _⟩, by repeat (first | exact Drawn0.refl _ | apply Drawn0.step)⟩
              · rw [if_neg c8] at H
                have c8b0 : (a0 == 46) = false := beq_eq_false_iff_ne.mpr c8
                have c8b1 : (a0 != 46) = true := bne_iff_ne.mpr c8
                (first | rw [c8b0] | (simp only [i64_w, i32_w]; rw [c8b0]) | skip)
                have H' := Aside0.mk H
                clear H
                go_wp2
                go_meet
                case rel => exact ⟨_, ((a0 == 47)), (by first | rfl | (simp; done) | (simp [*]; done)), H', ⟨by have := HJ3.out; first | omega | exact Nat.le_refl _⟩, by repeat (first | exact Drawn0.refl _ | apply Drawn0.step)⟩
            case rest =>
              clear HC7
              try clear c2
              try clear c2b0
              try clear c2b1
              try clear p2
              try clear c3
              try clear c3b0
              try clear c3b1
              try clear c5
              try clear c5b0
              try clear c5b1
              try clear c6
              try clear c8
              try clear c8b0
              try clear c8b1
              try clear p2
              obtain ⟨kq, x16_6, rfl, HA, HJ6, ⟨mc6, rfl⟩⟩ := hcut
              cases kq with
              | zero => exact absurd HA.out (by simp [avocetref05_Access.j1])
              | succ kj6 =>
                have H := HA.out
                clear HA
                simp only [avocetref05_Access.j1] at H
                by_cases c9 : x16_6 = true
                · subst c9
                  have H1 : (some (127, 2, (a0 == 46), false)) = some (r1, r2, r3, r4) := by rw [if_pos rfl] at H; exact H
                  clear H
                  have H := H1
                  clear H1
                  simp only [Option.some.injEq, Prod.mk.injEq] at H
                  obtain ⟨rfl, rfl, rfl, rfl⟩ := H
                  go_wp2
                  refine bodyPost_ret (results_list (rs := [.tmp 2, .tmp 3, .tmp 4, .tmp 5]) rfl (by simp) (.tmp (.tmp (.tmp (.tmp .nil))))) rfl ?_
                  exact ⟨by first | rfl | (simp; done) | (simp [*]; done), by repeat (first | exact Drawn0.refl _ | apply Drawn0.step)⟩
                · replace c9 := Bool.eq_false_iff.mpr c9
                  subst c9
                  have H1 : (if a0 = 48 then (avocetref05_Access.j2 kj6 a0 a0 (a0 == 48)) else (avocetref05_Access.j2 kj6 a0 a0 (a0 == 49))) = some (r1, r2, r3, r4) := by rw [if_neg (show ¬ (false = true) by decide)] at H; exact H
                  clear H
                  have H := H1
                  clear H1
                  have HC10 := Aside0.mk H
                  clear H
                  go_upto_if 21 with (fail)
                  go_cut [21] (fun v21 wc => ∃ (kq : Nat) (x21_9 : Bool), v21 = .bool x21_9 ∧ Aside0 (avocetref05_Access.j2 kq a0 a0 x21_9 = some (r1, r2, r3, r4)) ∧ Aside0 (kq ≤ kj6) ∧ Drawn0 w wc)
                  case first =>
                    have H := HC10.out
                    clear HC10
                    by_cases c11 : a0 = 48
                    · rw [if_pos c11] at H
                      have c11b0 : (a0 == 48) = true := beq_iff_eq.mpr c11
                      have c11b1 : (a0 != 48) = false := bne_eq_false_iff_eq.mpr c11
                      clear c11
                      (first | rw [c11b0] | (simp only [i64_w, i32_w]; rw [c11b0]) | skip)
                      have H' := Aside0.mk H
                      clear H
                      go_wp2
                      go_meet
                      case rel => exact ⟨_, ((a0 == 48)), (by first | rfl | (simp; done) | (simp [*]; done)), H', ⟨by have := HJ3.out; have := HJ6.out; first | omega | exact Nat.le_refl _⟩, by repeat (first | exact Drawn0.refl _ | apply Drawn0.step)⟩
                    · rw [if_neg c11] at H
                      have c11b0 : (a0 == 48) = false := beq_eq_false_iff_ne.mpr c11
                      have c11b1 : (a0 != 48) = true := bne_iff_ne.mpr c11
                      (first | rw [c11b0] | (simp only [i64_w, i32_w]; rw [c11b0]) | skip)
                      have H' := Aside0.mk H
                      clear H
                      go_wp2
                      go_meet
                      case rel => exact ⟨_, ((a0 == 49)), (by first | rfl | (simp; done) | (simp [*]; done)), H', ⟨by have := HJ3.out; have := HJ6.out; first | omega | exact Nat.le_refl _⟩, by repeat (first | exact Drawn0.refl _ | apply Drawn0.step)⟩
                  case rest =>
                    clear HC10
                    try clear c1
                    try clear c2
                    try clear c2b0
                    try clear c2b1
                    try clear p2
                    try clear c3
                    try clear c3b0
                    try clear c3b1
                    try clear c5
                    try clear c5b0
                    try clear c5b1
                    try clear c6
                    try clear c8
                    try clear c8b0
                    try clear c8b1
                    try clear c9
                    try clear c11
                    try clear c11b0
                    try clear c11b1
                    try clear p2
                    obtain ⟨kq, x21_9, rfl, HA, HJ9, ⟨mc9, rfl⟩⟩ := hcut
                    cases kq with
                    | zero => exact absurd HA.out (by simp [avocetref05_Access.j2])
                    | succ kj9 =>
                      have H := HA.out
                      clear HA
                      simp only [avocetref05_Access.j2] at H
                      by_cases c12 : x21_9 = true
                      · subst c12
                        have H1 : (some (126, 1, (a0 == 48), false)) = some (r1, r2, r3, r4) := by rw [if_pos rfl] at H; exact H
                        clear H
                        have H := H1
                        clear H1
                        simp only [Option.some.injEq, Prod.mk.injEq] at H
                        obtain ⟨rfl, rfl, rfl, rfl⟩ := H
                        go_wp2
                        refine bodyPost_ret (results_list (rs := [.tmp 2, .tmp 3, .tmp 4, .tmp 5]) rfl (by simp) (.tmp (.tmp (.tmp (.tmp .nil))))) rfl ?_
                        exact ⟨by first | rfl | (simp; done) | (simp [*]; done), by repeat (first | exact Drawn0.refl _ | apply Drawn0.step)⟩
                      · replace c12 := Bool.eq_false_iff.mpr c12
                        subst c12
                        have H1 : (if a0 = 50 then (avocetref05_Access.j3 kj9 a0 a0 (a0 == 50)) else (avocetref05_Access.j3 kj9 a0 a0 (a0 == 51))) = some (r1, r2, r3, r4) := by rw [if_neg (show ¬ (false = true) by decide)] at H; exact H
                        clear H
                        have H := H1
                        clear H1
                        have HC13 := Aside0.mk H
                        clear H
                        go_upto_if 26 with (fail)
                        go_cut [26] (fun v26 wc => ∃ (kq : Nat) (x26_12 : Bool), v26 = .bool x26_12 ∧ Aside0 (avocetref05_Access.j3 kq a0 a0 x26_12 = some (r1, r2, r3, r4)) ∧ Aside0 (kq ≤ kj9) ∧ Drawn0 w wc)
                        case first =>
                          have H := HC13.out
                          clear HC13
                          by_cases c14 : a0 = 50
                          · rw [if_pos c14] at H
                            have c14b0 : (a0 == 50) = true := beq_iff_eq.mpr c14
                            have c14b1 : (a0 != 50) = false := bne_eq_false_iff_eq.mpr c14
                            clear c14
                            (first | rw [c14b0] | (simp only [i64_w, i32_w]; rw [c14b0]) | skip)
                            have H' := Aside0.mk H
                            clear H
                            go_wp2
                            go_meet
                            case rel => exact ⟨_, ((a0 == 50)), (by first | rfl | (simp; done) | (simp [*]; done)), H', ⟨by have := HJ3.out; have := HJ6.out; have := HJ9.out; first | omega | exact Nat.le_refl _⟩, by repeat (first | exact Drawn0.refl _ | apply Drawn0.step)⟩
                          · rw [if_neg c14] at H
                            have c14b0 : (a0 == 50) = false := beq_eq_false_iff_ne.mpr c14
                            have c14b1 : (a0 != 50) = true := bne_iff_ne.mpr c14
                            (first | rw [c14b0] | (simp only [i64_w, i32_w]; rw [c14b0]) | skip)
                            have H' := Aside0.mk H
                            clear H
                            go_wp2
                            go_meet
                            case rel => exact ⟨_, ((a0 == 51)), (by first | rfl | (simp; done) | (simp [*]; done)), H', ⟨by have := HJ3.out; have := HJ6.out; have := HJ9.out; first | omega | exact Nat.le_refl _⟩, by repeat (first | exact Drawn0.refl _ | apply Drawn0.step)⟩
                        case rest =>
                          clear HC13
                          try clear c1
                          try clear c2
                          try clear c2b0
                          try clear c2b1
                          try clear p2
                          try clear c3
                          try clear c3b0
                          try clear c3b1
                          try clear c5
                          try clear c5b0
                          try clear c5b1
                          try clear c6
                          try clear c8
                          try clear c8b0
                          try clear c8b1
                          try clear c9
                          try clear c11
                          try clear c11b0
                          try clear c11b1
                          try clear c12
                          try clear c14
                          try clear c14b0
                          try clear c14b1
                          try clear p2
                          obtain ⟨kq, x26_12, rfl, HA, HJ12, ⟨mc12, rfl⟩⟩ := hcut
                          cases kq with
                          | zero => exact absurd HA.out (by simp [avocetref05_Access.j3])
                          | succ kj12 =>
                            have H := HA.out
                            clear HA
                            simp only [avocetref05_Access.j3] at H
                            by_cases c15 : x26_12 = true
                            · subst c15
                              have H1 : (some (126, 2, (a0 == 50), false)) = some (r1, r2, r3, r4) := by rw [if_pos rfl] at H; exact H
                              clear H
                              have H := H1
                              clear H1
                              simp only [Option.some.injEq, Prod.mk.injEq] at H
                              obtain ⟨rfl, rfl, rfl, rfl⟩ := H
                              go_wp2
                              refine bodyPost_ret (results_list (rs := [.tmp 2, .tmp 3, .tmp 4, .tmp 5]) rfl (by simp) (.tmp (.tmp (.tmp (.tmp .nil))))) rfl ?_
                              exact ⟨by first | rfl | (simp; done) | (simp [*]; done), by repeat (first | exact Drawn0.refl _ | apply Drawn0.step)⟩
                            · replace c15 := Bool.eq_false_iff.mpr c15
                              subst c15
                              have H1 : (if a0 = 52 then (avocetref05_Access.j4 kj12 a0 a0 (a0 == 52)) else (avocetref05_Access.j4 kj12 a0 a0 (a0 == 53))) = some (r1, r2, r3, r4) := by rw [if_neg (show ¬ (false = true) by decide)] at H; exact H
                              clear H
                              have H := H1
                              clear H1
                              have HC16 := Aside0.mk H
                              clear H
                              go_upto_if 31 with (fail)
                              go_cut [31] (fun v31 wc => ∃ (kq : Nat) (x31_15 : Bool), v31 = .bool x31_15 ∧ Aside0 (avocetref05_Access.j4 kq a0 a0 x31_15 = some (r1, r2, r3, r4)) ∧ Aside0 (kq ≤ kj12) ∧ Drawn0 w wc)
                              case first =>
                                have H := HC16.out
                                clear HC16
                                by_cases c17 : a0 = 52
                                · rw [if_pos c17] at H
                                  have c17b0 : (a0 == 52) = true := beq_iff_eq.mpr c17
                                  have c17b1 : (a0 != 52) = false := bne_eq_false_iff_eq.mpr c17
                                  clear c17
                                  (first | rw [c17b0] | (simp only [i64_w, i32_w]; rw [c17b0]) | skip)
                                  have H' := Aside0.mk H
                                  clear H
                                  go_wp2
                                  go_meet
                                  case rel => exact ⟨_, ((a0 == 52)), (by first | rfl | (simp; done) | (simp [*]; done)), H', ⟨by have := HJ3.out; have := HJ6.out; have := HJ9.out; have := HJ12.out; first | omega | exact Nat.le_refl _⟩, by repeat (first | exact Drawn0.refl _ | apply Drawn0.step)⟩
                                · rw [if_neg c17] at H
                                  have c17b0 : (a0 == 52) = false := beq_eq_false_iff_ne.mpr c17
                                  have c17b1 : (a0 != 52) = true := bne_iff_ne.mpr c17
                                  (first | rw [c17b0] | (simp only [i64_w, i32_w]; rw [c17b0]) | skip)
                                  have H' := Aside0.mk H
                                  clear H
                                  go_wp2
                                  go_meet
                                  case rel => exact ⟨_, ((a0 == 53)), (by first | rfl | (simp; done) | (simp [*]; done)), H', ⟨by have := HJ3.out; have := HJ6.out; have := HJ9.out; have := HJ12.out; first | omega | exact Nat.le_refl _⟩, by repeat (first | exact Drawn0.refl _ | apply Drawn0.step)⟩
                              case rest =>
                                clear HC16
                                try clear c1
                                try clear c2
                                try clear c2b0
                                try clear c2b1
                                try clear p2
                                try clear c3
                                try clear c3b0
                                try clear c3b1
                                try clear c5
                                try clear c5b0
                                try clear c5b1
                                try clear c6
                                try clear c8
                                try clear c8b0
                                try clear c8b1
                                try clear c9
                                try clear c11
                                try clear c11b0
                                try clear c11b1
                                try clear c12
                                try clear c14
                                try clear c14b0
                                try clear c14b1
                                try clear c15
                                try clear c17
                                try clear c17b0
                                try clear c17b1
                                try clear p2
                                obtain ⟨kq, x31_15, rfl, HA, HJ15, ⟨mc15, rfl⟩⟩ := hcut
                                cases kq with
                                | zero => exact absurd HA.out (by simp [avocetref05_Access.j4])
                                | succ kj15 =>
                                  have H := HA.out
                                  clear HA
                                  simp only [avocetref05_Access.j4] at H
                                  by_cases c18 : x31_15 = true
                                  · subst c18
                                    have H1 : (some (126, 4, (a0 == 52), false)) = some (r1, r2, r3, r4) := by rw [if_pos rfl] at H; exact H
                                    clear H
                                    have H := H1
                                    clear H1
                                    simp only [Option.some.injEq, Prod.mk.injEq] at H
                                    obtain ⟨rfl, rfl, rfl, rfl⟩ := H
                                    go_wp2
                                    refine bodyPost_ret (results_list (rs := [.tmp 2, .tmp 3, .tmp 4, .tmp 5]) rfl (by simp) (.tmp (.tmp (.tmp (.tmp .nil))))) rfl ?_
                                    exact ⟨by first | rfl | (simp; done) | (simp [*]; done), by repeat (first | exact Drawn0.refl _ | apply Drawn0.step)⟩
                                  · replace c18 := Bool.eq_false_iff.mpr c18
                                    subst c18
                                    have H1 : (if a0 = 54 then (some (127, 4, false, true)) else (if a0 = 55 then (some (126, 8, false, true)) else (if a0 = 58 then (some (127, 1, false, true)) else (if a0 = 59 then (some (127, 2, false, true)) else (if a0 = 60 then (some (126, 1, false, true)) else (if a0 = 61 then (some (126, 2, false, true)) else (if a0 = 62 then (some (126, 4, false, true)) else (some (0, 0, false, false))))))))) = some (r1, r2, r3, r4) := by rw [if_neg (show ¬ (false = true) by decide)] at H; exact H
                                    clear H
                                    have H := H1
                                    clear H1
                                    by_cases c19 : a0 = 54
                                    · rw [if_pos c19] at H
                                      have c19b0 : (a0 == 54) = true := beq_iff_eq.mpr c19
                                      have c19b1 : (a0 != 54) = false := bne_eq_false_iff_eq.mpr c19
                                      clear c19
                                      simp only [Option.some.injEq, Prod.mk.injEq] at H
                                      obtain ⟨rfl, rfl, rfl, rfl⟩ := H
                                      go_wp2
                                      refine bodyPost_ret (results_list (rs := [.tmp 2, .tmp 3, .tmp 4, .tmp 5]) rfl (by simp) (.tmp (.tmp (.tmp (.tmp .nil))))) rfl ?_
                                      exact ⟨by first | rfl | (simp; done) | (simp [*]; done), by repeat (first | exact Drawn0.refl _ | apply Drawn0.step)⟩
                                    · rw [if_neg c19] at H
                                      have c19b0 : (a0 == 54) = false := beq_eq_false_iff_ne.mpr c19
                                      have c19b1 : (a0 != 54) = true := bne_iff_ne.mpr c19
                                      by_cases c20 : a0 = 55
                                      · rw [if_pos c20] at H
                                        have c20b0 : (a0 == 55) = true := beq_iff_eq.mpr c20
                                        have c20b1 : (a0 != 55) = false := bne_eq_false_iff_eq.mpr c20
                                        clear c20
                                        simp only [Option.some.injEq, Prod.mk.injEq] at H
                                        obtain ⟨rfl, rfl, rfl, rfl⟩ := H
                                        go_wp2
                                        refine bodyPost_ret (results_list (rs := [.tmp 2, .tmp 3, .tmp 4, .tmp 5]) rfl (by simp) (.tmp (.tmp (.tmp (.tmp .nil))))) rfl ?_
                                        exact ⟨by first | rfl | (simp; done) | (simp [*]; done), by repeat (first | exact Drawn0.refl _ | apply Drawn0.step)⟩
                                      · rw [if_neg c20] at H
                                        have c20b0 : (a0 == 55) = false := beq_eq_false_iff_ne.mpr c20
                                        have c20b1 : (a0 != 55) = true := bne_iff_ne.mpr c20
                                        by_cases c21 : a0 = 58
                                        · rw [if_pos c21] at H
                                          have c21b0 : (a0 == 58) = true := beq_iff_eq.mpr c21
                                          have c21b1 : (a0 != 58) = false := bne_eq_false_iff_eq.mpr c21
                                          clear c21
                                          simp only [Option.some.injEq, Prod.mk.injEq] at H
                                          obtain ⟨rfl, rfl, rfl, rfl⟩ := H
                                          go_wp2
                                          refine bodyPost_ret (results_list (rs := [.tmp 2, .tmp 3, .tmp 4, .tmp 5]) rfl (by simp) (.tmp (.tmp (.tmp (.tmp .nil))))) rfl ?_
                                          exact ⟨by first | rfl | (simp; done) | (simp [*]; done), by repeat (first | exact Drawn0.refl _ | apply Drawn0.step)⟩
                                        · rw [if_neg c21] at H
                                          have c21b0 : (a0 == 58) = false := beq_eq_false_iff_ne.mpr c21
                                          have c21b1 : (a0 != 58) = true := bne_iff_ne.mpr c21
                                          by_cases c22 : a0 = 59
                                          · rw [if_pos c22] at H
                                            have c22b0 : (a0 == 59) = true := beq_iff_eq.mpr c22
                                            have c22b1 : (a0 != 59) = false := bne_eq_false_iff_eq.mpr c22
                                            clear c22
                                            simp only [Option.some.injEq, Prod.mk.injEq] at H
                                            obtain ⟨rfl, rfl, rfl, rfl⟩ := H
                                            go_wp2
                                            refine bodyPost_ret (results_list (rs := [.tmp 2, .tmp 3, .tmp 4, .tmp 5]) rfl (by simp) (.tmp (.tmp (.tmp (.tmp .nil))))) rfl ?_
                                            exact ⟨by first | rfl | (simp; done) | (simp [*]; done), by repeat (first | exact Drawn0.refl _ | apply Drawn0.step)⟩
                                          · rw [if_neg c22] at H
                                            have c22b0 : (a0 == 59) = false := beq_eq_false_iff_ne.mpr c22
                                            have c22b1 : (a0 != 59) = true := bne_iff_ne.mpr c22
                                            by_cases c23 : a0 = 60
                                            · rw [if_pos c23] at H
                                              have c23b0 : (a0 == 60) = true := beq_iff_eq.mpr c23
                                              have c23b1 : (a0 != 60) = false := bne_eq_false_iff_eq.mpr c23
                                              clear c23
                                              simp only [Option.some.injEq, Prod.mk.injEq] at H
                                              obtain ⟨rfl, rfl, rfl, rfl⟩ := H
                                              go_wp2
                                              refine bodyPost_ret (results_list (rs := [.tmp 2, .tmp 3, .tmp 4, .tmp 5]) rfl (by simp) (.tmp (.tmp (.tmp (.tmp .nil))))) rfl ?_
                                              exact ⟨by first | rfl | (simp; done) | (simp [*]; done), by repeat (first | exact Drawn0.refl _ | apply Drawn0.step)⟩
                                            · rw [if_neg c23] at H
                                              have c23b0 : (a0 == 60) = false := beq_eq_false_iff_ne.mpr c23
                                              have c23b1 : (a0 != 60) = true := bne_iff_ne.mpr c23
                                              by_cases c24 : a0 = 61
                                              · rw [if_pos c24] at H
                                                have c24b0 : (a0 == 61) = true := beq_iff_eq.mpr c24
                                                have c24b1 : (a0 != 61) = false := bne_eq_false_iff_eq.mpr c24
                                                clear c24
                                                simp only [Option.some.injEq, Prod.mk.injEq] at H
                                                obtain ⟨rfl, rfl, rfl, rfl⟩ := H
                                                go_wp2
                                                refine bodyPost_ret (results_list (rs := [.tmp 2, .tmp 3, .tmp 4, .tmp 5]) rfl (by simp) (.tmp (.tmp (.tmp (.tmp .nil))))) rfl ?_
                                                exact ⟨by first | rfl | (simp; done) | (simp [*]; done), by repeat (first | exact Drawn0.refl _ | apply Drawn0.step)⟩
                                              · rw [if_neg c24] at H
                                                have c24b0 : (a0 == 61) = false := beq_eq_false_iff_ne.mpr c24
                                                have c24b1 : (a0 != 61) = true := bne_iff_ne.mpr c24
                                                by_cases c25 : a0 = 62
                                                · rw [if_pos c25] at H
                                                  have c25b0 : (a0 == 62) = true := beq_iff_eq.mpr c25
                                                  have c25b1 : (a0 != 62) = false := bne_eq_false_iff_eq.mpr c25
                                                  clear c25
                                                  simp only [Option.some.injEq, Prod.mk.injEq] at H
                                                  obtain ⟨rfl, rfl, rfl, rfl⟩ := H
                                                  go_wp2
                                                  refine bodyPost_ret (results_list (rs := [.tmp 2, .tmp 3, .tmp 4, .tmp 5]) rfl (by simp) (.tmp (.tmp (.tmp (.tmp .nil))))) rfl ?_
                                                  exact ⟨by first | rfl | (simp; done) | (simp [*]; done), by repeat (first | exact Drawn0.refl _ | apply Drawn0.step)⟩
                                                · rw [if_neg c25] at H
                                                  have c25b0 : (a0 == 62) = false := beq_eq_false_iff_ne.mpr c25
                                                  have c25b1 : (a0 != 62) = true := bne_iff_ne.mpr c25
                                                  simp only [Option.some.injEq, Prod.mk.injEq] at H
                                                  obtain ⟨rfl, rfl, rfl, rfl⟩ := H
                                                  go_wp2
                                                  refine bodyPost_ret (results_list (rs := [.tmp 2, .tmp 3, .tmp 4, .tmp 5]) rfl (by simp) (.tmp (.tmp (.tmp (.tmp .nil))))) rfl ?_
                                                  exact ⟨by first | rfl | (simp; done) | (simp [*]; done), by repeat (first | exact Drawn0.refl _ | apply Drawn0.step)⟩

/-! ### avocetref02_low: function 41 -/
def avocetref02_low.f (a0 : Int) (a1 : Int) : Option (Int) := if a1 = 32 then (some (Int.tmod a0 4294967296)) else (some a0)
set_option maxHeartbeats 8000000 in
set_option maxRecDepth 100000 in
theorem avocetref02_low.calls (a0 : Int) (a1 : Int) (r : Int) (w : World) (h : avocetref02_low.f a0 a1 = some r) :
    Calls Tryd.prog 41 #[.int .u64 a0, .int .i64 a1] w fun e w' => e = .returned (.int .u64 r) ∧ Drawn0 w w' := by
  have H : (if a1 = 32 then (some (Int.tmod a0 4294967296)) else (some a0)) = some r := h
  clear h
  by_cases c3 : a1 = 32
  · rw [if_pos c3] at H
    have c3b0 : (a1 == 32) = true := beq_iff_eq.mpr c3
    have c3b1 : (a1 != 32) = false := bne_eq_false_iff_eq.mpr c3
    clear c3
    obtain rfl := Option.some.inj H
    go_enter Tryd.func41, Tryd.ntmps41
    go_wp2
    go_ret
    exact ⟨by first | rfl | (simp; done) | (simp [*]; done), by repeat (first | exact Drawn0.refl _ | apply Drawn0.step)⟩
  · rw [if_neg c3] at H
    have c3b0 : (a1 == 32) = false := beq_eq_false_iff_ne.mpr c3
    have c3b1 : (a1 != 32) = true := bne_iff_ne.mpr c3
    obtain rfl := Option.some.inj H
    go_enter Tryd.func41, Tryd.ntmps41
    go_wp2
    go_ret
    exact ⟨by first | rfl | (simp; done) | (simp [*]; done), by repeat (first | exact Drawn0.refl _ | apply Drawn0.step)⟩

/-! ### avocetref02_Value: function 40 -/
def avocetref02_Value.f (a0 : Int) (a1 : Int) : Option (Int) := if a0 = 127 then ((avocetref02_low.f (IntKind.u64.wrap (a1)) 32).bind fun t103 => (some t103)) else (some (IntKind.u64.wrap (a1)))
set_option maxHeartbeats 8000000 in
set_option maxRecDepth 100000 in
theorem avocetref02_Value.calls (a0 : Int) (a1 : Int) (r : Int) (w : World) (h : avocetref02_Value.f a0 a1 = some r) :
    Calls Tryd.prog 40 #[.int .u8 a0, .int .i64 a1] w fun e w' => e = .returned (.int .u64 r) ∧ Drawn0 w w' := by
  have H : (if a0 = 127 then ((avocetref02_low.f (IntKind.u64.wrap (a1)) 32).bind fun t103 => (some t103)) else (some (IntKind.u64.wrap (a1)))) = some r := h
  clear h
  by_cases c3 : a0 = 127
  · rw [if_pos c3] at H
    have c3b0 : (a0 == 127) = true := beq_iff_eq.mpr c3
    have c3b1 : (a0 != 127) = false := bne_eq_false_iff_eq.mpr c3
    clear c3
    replace H := Option.bind_eq_some_iff.mp H
    obtain ⟨t103, A40, H⟩ := H
    replace H : (some t103) = some r := H
    have A4 := Aside0.mk A40
    clear A40
    obtain rfl := Option.some.inj H
    go_enter Tryd.func40, Tryd.ntmps40
    go_wp2_with (first | ((with_reducible refine gate_callee (f := 41) rfl ?_); refine goesL_ (some 9) rfl rfl Tryd.func41 (by kernel_rfl) rfl #[.int .u64 (IntKind.u64.wrap (a1)), .int .i64 32] rfl (by (try simp only [List.map_toArray, List.map_cons, List.map_nil]); first | done | rfl | (simp only [List.length_drop, List.length_take]; rfl)) ?_; (with_reducible refine (avocetref02_low.calls (IntKind.u64.wrap (a1)) 32 t103 _ A4.out).mono ?_); rintro e w' ⟨rfl, ⟨nd, rfl⟩⟩; refine ⟨_, rfl, ?_⟩))
    go_ret
    exact ⟨by first | rfl | (simp; done) | (simp [*]; done), by repeat (first | exact Drawn0.refl _ | apply Drawn0.step)⟩
  · rw [if_neg c3] at H
    have c3b0 : (a0 == 127) = false := beq_eq_false_iff_ne.mpr c3
    have c3b1 : (a0 != 127) = true := bne_iff_ne.mpr c3
    obtain rfl := Option.some.inj H
    go_enter Tryd.func40, Tryd.ntmps40
    go_wp2
    go_ret
    exact ⟨by first | rfl | (simp; done) | (simp [*]; done), by repeat (first | exact Drawn0.refl _ | apply Drawn0.step)⟩

end Go.Proofs.YtffoolhfjomhhaaDoor.G
