-- Made by gprint.py (mine) over the kit's print.py, out of the translation; parts of it typed by hand.
import Derived.Test.YthddcbfgdpfcjaaG0
namespace Go.Proofs.Ythddcbfgdpfcjaa.G
open Go.RowKit Go.Proofs.YthddcbfgdpfcjaaW.PrintWords Go.Proofs.YthddcbfgdpfcjaaW.PrintLast Go.Proofs.YthddcbfgdpfcjaaW.PrintMore
attribute [local go_sem] max2_int min2_int max_two min_two max_three min_three max_four min_four   -- for this text's walks alone
set_option linter.unusedVariables false
set_option linter.unusedSimpArgs false

/-! ### avocetref04_one: function 36 -/
def avocetref04_one.j0 : Nat → List Int → Int → Bool → Option (Int × Int)
  | 0, _, _, _ => none
  | k + 1, x0, x1, x13 => if x13 = true then (some (0, 1)) else (if x1 = (x0.length : Int) then (some (0, 2)) else (if 0 ≤ x1 then (if x1 < (x0.length : Int) then (some (rd x0 x1, 0)) else (none)) else (none)))
def avocetref04_one.f (k : Nat) (l0 : List Int) (a1 : Int) : Option (Int × Int) := if a1 < 0 then (avocetref04_one.j0 k l0 a1 true) else (avocetref04_one.j0 k l0 a1 (decide (a1 > (l0.length : Int))))
theorem avocetref04_one.mono_l : ∀ k, (∀ y0 y1 y2, LeO (avocetref04_one.j0 k y0 y1 y2) (avocetref04_one.j0 (k + 1) y0 y1 y2))
  | 0 => fun _ _ _ r h => by simp [avocetref04_one.j0] at h
  | k + 1 => by
    have ih0 := avocetref04_one.mono_l k
    · intro y0 y1 y2
      unfold avocetref04_one.j0
      repeat' first
      | (with_reducible exact ih0 _ _ _)
      | (with_reducible exact LeO.refl _)
      | (with_reducible exact LeO.none _)
      | (with_reducible refine LeO.ite ?_ ?_)
      | (with_reducible refine LeO.bind ?_ (fun _ => ?_))
      | exact ih0 _ _ _
      | exact LeO.none _
      | refine LeO.ite ?_ ?_
      | refine LeO.bind ?_ (fun _ => ?_)
theorem avocetref04_one.mono : ∀ a0 a1 k, LeO (avocetref04_one.f k a0 a1) (avocetref04_one.f (k + 1) a0 a1) := by
  intro a0 a1 k
  have ih0 := avocetref04_one.mono_l k
  unfold avocetref04_one.f
  repeat' first
      | (with_reducible exact ih0 _ _ _)
      | (with_reducible exact LeO.refl _)
      | (with_reducible exact LeO.none _)
      | (with_reducible refine LeO.ite ?_ ?_)
      | (with_reducible refine LeO.bind ?_ (fun _ => ?_))
      | exact ih0 _ _ _
      | exact LeO.none _
      | refine LeO.ite ?_ ?_
      | refine LeO.bind ?_ (fun _ => ?_)
set_option maxHeartbeats 8000000 in
set_option maxRecDepth 100000 in
theorem avocetref04_one.calls (k : Nat) (A0 : Option Addr) (c0 : Nat) (l0 : List Int) (a1 : Int) (r1 : Int) (r2 : Int) (w : World) (hr0 : Kd.C (Kd.int .u8) w A0 l0.length l0) (hc0 : l0.length ≤ c0) (h : avocetref04_one.f k l0 a1 = some (r1, r2)) :
    Calls Try.prog 36 #[.slice A0 l0.length c0, .int .i64 a1] w fun e w' => e = .returned (.tuple #[.int .u8 r1, .int .i64 r2]) ∧ Drawn0 w w' := by
  have HR0 := Aside0.mk hr0
  have HC0 := Aside0.mk hc0
  clear hr0 hc0
  have H : (if a1 < 0 then (avocetref04_one.j0 k l0 a1 true) else (avocetref04_one.j0 k l0 a1 (decide (a1 > (l0.length : Int))))) = some (r1, r2) := h
  clear h
  have HC3 := Aside0.mk H
  clear H
  go_enter Try.func36, Try.ntmps36
  go_upto_region 1 with (fail)
  go_cut [13] (fun v13 wc => ∃ (kq : Nat) (x13_2 : Bool), v13 = .bool x13_2 ∧ Aside0 (avocetref04_one.j0 kq l0 a1 x13_2 = some (r1, r2)) ∧ Aside0 (kq ≤ k) ∧ Drawn0 w wc)
  case first =>
    have H := HC3.out
    clear HC3
    by_cases c4 : a1 < 0
    · rw [if_pos c4] at H
      have c4b0 : decide (a1 < 0) = true := decide_eq_true c4
      clear c4
      (first | rw [c4b0] | (simp only [i64_w, i32_w]; rw [c4b0]) | skip)
      have H' := Aside0.mk H
      clear H
      go_wp2
      go_meet
      case rel => exact ⟨_, (true), (by first | rfl | (simp; done) | (simp [*]; done)), H', ⟨by first | omega | exact Nat.le_refl _⟩, by repeat (first | exact Drawn0.refl _ | apply Drawn0.step)⟩
    · rw [if_neg c4] at H
      have c4b0 : decide (a1 < 0) = false := decide_eq_false c4
      clear c4
      (first | rw [c4b0] | (simp only [i64_w, i32_w]; rw [c4b0]) | skip)
      have H' := Aside0.mk H
      clear H
      go_wp2
      go_meet
      case rel => exact ⟨_, (decide (a1 > (l0.length : Int))), (by first | rfl | (simp; done) | (simp [*]; done)), H', ⟨by first | omega | exact Nat.le_refl _⟩, by repeat (first | exact Drawn0.refl _ | apply Drawn0.step)⟩
  case rest =>
    clear HC3
    try clear p2
    try clear c3
    try clear c4
    try clear c4b0
    obtain ⟨kq, x13_2, rfl, HA, HJ2, ⟨mc2, rfl⟩⟩ := hcut
    cases kq with
    | zero => exact absurd HA.out (by simp [avocetref04_one.j0])
    | succ kj2 =>
      have H := HA.out
      clear HA
      simp only [avocetref04_one.j0] at H
      by_cases c5 : x13_2 = true
      · subst c5
        have H1 : (some (0, 1)) = some (r1, r2) := by rw [if_pos rfl] at H; exact H
        clear H
        have H := H1
        clear H1
        simp only [Option.some.injEq, Prod.mk.injEq] at H
        obtain ⟨rfl, rfl⟩ := H
        go_wp2
        go_ret2
        exact ⟨by first | rfl | (simp; done) | (simp [*]; done), by repeat (first | exact Drawn0.refl _ | apply Drawn0.step)⟩
      · replace c5 := Bool.eq_false_iff.mpr c5
        subst c5
        have H1 : (if a1 = (l0.length : Int) then (some (0, 2)) else (if 0 ≤ a1 then (if a1 < (l0.length : Int) then (some (rd l0 a1, 0)) else (none)) else (none))) = some (r1, r2) := by rw [if_neg (show ¬ (false = true) by decide)] at H; exact H
        clear H
        have H := H1
        clear H1
        by_cases c6 : a1 = (l0.length : Int)
        · rw [if_pos c6] at H
          have c6b0 : (a1 == (l0.length : Int)) = true := beq_iff_eq.mpr c6
          have c6b1 : (a1 != (l0.length : Int)) = false := bne_eq_false_iff_eq.mpr c6
          clear c6
          simp only [Option.some.injEq, Prod.mk.injEq] at H
          obtain ⟨rfl, rfl⟩ := H
          go_wp2
          go_ret2
          exact ⟨by first | rfl | (simp; done) | (simp [*]; done), by repeat (first | exact Drawn0.refl _ | apply Drawn0.step)⟩
        · rw [if_neg c6] at H
          have c6b0 : (a1 == (l0.length : Int)) = false := beq_eq_false_iff_ne.mpr c6
          have c6b1 : (a1 != (l0.length : Int)) = true := bne_iff_ne.mpr c6
          by_cases c7 : 0 ≤ a1
          · rw [if_pos c7] at H
            have c7b0 : decide (0 ≤ a1) = true := decide_eq_true c7
            clear c7
            by_cases c8 : a1 < (l0.length : Int)
            · rw [if_pos c8] at H
              have c8b0 : decide (a1 < (l0.length : Int)) = true := decide_eq_true c8
              clear c8
              simp only [Option.some.injEq, Prod.mk.injEq] at H
              obtain ⟨rfl, rfl⟩ := H
              have p218 : 0 ≤ (a1 : Int) := of_decide_eq_true (by first | (with_reducible assumption) | assumption)
              have q218 : a1 < (l0.length : Int) := of_decide_eq_true (by first | (with_reducible assumption) | assumption)
              obtain ⟨ad218, e218, hx218_0⟩ := Kd.at_int HR0.out a1 p218 q218
              cases e218
              replace p218 := eq_true p218
              replace q218 := eq_true q218
              go_wp2
              go_ret2
              exact ⟨by first | rfl | (simp; done) | (simp [*]; done), by repeat (first | exact Drawn0.refl _ | apply Drawn0.step)⟩
            · rw [if_neg c8] at H
              exact absurd H (by simp)
          · rw [if_neg c7] at H
            exact absurd H (by simp)

/-! ### avocetref04_Val: function 19 -/
def avocetref04_Val.f (k : Nat) (l0 : List Int) (a1 : Int) : Option (Int × Int × Int) := (avocetref04_one.f k l0 a1).bind fun bt219 => (if bt219.2 = 0 then (if bt219.1 = 126 then (some (bt219.1, wrap64 (a1 + 1), 0)) else (if bt219.1 = 127 then (some (bt219.1, wrap64 (a1 + 1), 0)) else (some (0, 0, 3)))) else (some (0, 0, bt219.2)))
theorem avocetref04_Val.mono : ∀ a0 a1 k, LeO (avocetref04_Val.f k a0 a1) (avocetref04_Val.f (k + 1) a0 a1) := by
  intro a0 a1 k
  unfold avocetref04_Val.f
  repeat' first
      | (with_reducible exact avocetref04_one.mono _ _ _)
      | (with_reducible exact LeO.refl _)
      | (with_reducible exact LeO.none _)
      | (with_reducible refine LeO.ite ?_ ?_)
      | (with_reducible refine LeO.bind ?_ (fun _ => ?_))
      | exact avocetref04_one.mono _ _ _
      | exact LeO.none _
      | refine LeO.ite ?_ ?_
      | refine LeO.bind ?_ (fun _ => ?_)
set_option maxHeartbeats 8000000 in
set_option maxRecDepth 100000 in
theorem avocetref04_Val.calls (k : Nat) (A0 : Option Addr) (c0 : Nat) (l0 : List Int) (a1 : Int) (r1 : Int) (r2 : Int) (r3 : Int) (w : World) (hr0 : Kd.C (Kd.int .u8) w A0 l0.length l0) (hc0 : l0.length ≤ c0) (h : avocetref04_Val.f k l0 a1 = some (r1, r2, r3)) :
    Calls Try.prog 19 #[.slice A0 l0.length c0, .int .i64 a1] w fun e w' => e = .returned (.tuple #[.int .u8 r1, .int .i64 r2, .int .i64 r3]) ∧ Drawn0 w w' := by
  have HR0 := Aside0.mk hr0
  have HC0 := Aside0.mk hc0
  clear hr0 hc0
  have H : ((avocetref04_one.f k l0 a1).bind fun bt219 => (if bt219.2 = 0 then (if bt219.1 = 126 then (some (bt219.1, wrap64 (a1 + 1), 0)) else (if bt219.1 = 127 then (some (bt219.1, wrap64 (a1 + 1), 0)) else (some (0, 0, 3)))) else (some (0, 0, bt219.2)))) = some (r1, r2, r3) := h
  clear h
  replace H := Option.bind_eq_some_iff.mp H
  obtain ⟨⟨t219, t220⟩, A30, H⟩ := H
  replace H : (if t220 = 0 then (if t219 = 126 then (some (t219, wrap64 (a1 + 1), 0)) else (if t219 = 127 then (some (t219, wrap64 (a1 + 1), 0)) else (some (0, 0, 3)))) else (some (0, 0, t220))) = some (r1, r2, r3) := H
  have A3 := Aside0.mk A30
  clear A30
  by_cases c4 : t220 = 0
  · rw [if_pos c4] at H
    have c4b0 : (t220 == 0) = true := beq_iff_eq.mpr c4
    have c4b1 : (t220 != 0) = false := bne_eq_false_iff_eq.mpr c4
    clear c4
    by_cases c5 : t219 = 126
    · rw [if_pos c5] at H
      have c5b0 : (t219 == 126) = true := beq_iff_eq.mpr c5
      have c5b1 : (t219 != 126) = false := bne_eq_false_iff_eq.mpr c5
      clear c5
      simp only [Option.some.injEq, Prod.mk.injEq] at H
      obtain ⟨rfl, rfl, rfl⟩ := H
      go_enter Try.func19, Try.ntmps19
      go_wp2_with (first | ((with_reducible refine gate_callee (f := 36) rfl ?_); refine goesL_ (some 12) rfl rfl Try.func36 (by kernel_rfl) rfl #[.slice A0 l0.length c0, .int .i64 a1] rfl (by (try simp only [List.map_toArray, List.map_cons, List.map_nil]); first | done | rfl | (simp only [List.length_drop, List.length_take]; rfl)) ?_; (with_reducible refine (avocetref04_one.calls k _ _ l0 a1 t219 t220 _ ?side1 ?side2 A3.out).mono ?_); (case side1 => repeat (first | exact HR0.out | (with_reducible refine Kd.C_alloc ?_ _) | (with_reducible refine Kd.C_drewN ?_ _) | (with_reducible refine Kd.C_drew ?_))); (case side2 => exact HC0.out); rintro e w' ⟨rfl, ⟨nd, rfl⟩⟩; refine ⟨_, rfl, ?_⟩))
      go_ret3
      exact ⟨by first | rfl | (simp; done) | (simp [*]; done), by repeat (first | exact Drawn0.refl _ | apply Drawn0.step)⟩
    · rw [if_neg c5] at H
      have c5b0 : (t219 == 126) = false := beq_eq_false_iff_ne.mpr c5
      have c5b1 : (t219 != 126) = true := bne_iff_ne.mpr c5
      by_cases c6 : t219 = 127
      · rw [if_pos c6] at H
        have c6b0 : (t219 == 127) = true := beq_iff_eq.mpr c6
        have c6b1 : (t219 != 127) = false := bne_eq_false_iff_eq.mpr c6
        clear c6
        simp only [Option.some.injEq, Prod.mk.injEq] at H
        obtain ⟨rfl, rfl, rfl⟩ := H
        go_enter Try.func19, Try.ntmps19
        go_wp2_with (first | ((with_reducible refine gate_callee (f := 36) rfl ?_); refine goesL_ (some 12) rfl rfl Try.func36 (by kernel_rfl) rfl #[.slice A0 l0.length c0, .int .i64 a1] rfl (by (try simp only [List.map_toArray, List.map_cons, List.map_nil]); first | done | rfl | (simp only [List.length_drop, List.length_take]; rfl)) ?_; (with_reducible refine (avocetref04_one.calls k _ _ l0 a1 t219 t220 _ ?side1 ?side2 A3.out).mono ?_); (case side1 => repeat (first | exact HR0.out | (with_reducible refine Kd.C_alloc ?_ _) | (with_reducible refine Kd.C_drewN ?_ _) | (with_reducible refine Kd.C_drew ?_))); (case side2 => exact HC0.out); rintro e w' ⟨rfl, ⟨nd, rfl⟩⟩; refine ⟨_, rfl, ?_⟩))
        go_ret3
        exact ⟨by first | rfl | (simp; done) | (simp [*]; done), by repeat (first | exact Drawn0.refl _ | apply Drawn0.step)⟩
      · rw [if_neg c6] at H
        have c6b0 : (t219 == 127) = false := beq_eq_false_iff_ne.mpr c6
        have c6b1 : (t219 != 127) = true := bne_iff_ne.mpr c6
        simp only [Option.some.injEq, Prod.mk.injEq] at H
        obtain ⟨rfl, rfl, rfl⟩ := H
        go_enter Try.func19, Try.ntmps19
        go_wp2_with (first | ((with_reducible refine gate_callee (f := 36) rfl ?_); refine goesL_ (some 12) rfl rfl Try.func36 (by kernel_rfl) rfl #[.slice A0 l0.length c0, .int .i64 a1] rfl (by (try simp only [List.map_toArray, List.map_cons, List.map_nil]); first | done | rfl | (simp only [List.length_drop, List.length_take]; rfl)) ?_; (with_reducible refine (avocetref04_one.calls k _ _ l0 a1 t219 t220 _ ?side1 ?side2 A3.out).mono ?_); (case side1 => repeat (first | exact HR0.out | (with_reducible refine Kd.C_alloc ?_ _) | (with_reducible refine Kd.C_drewN ?_ _) | (with_reducible refine Kd.C_drew ?_))); (case side2 => exact HC0.out); rintro e w' ⟨rfl, ⟨nd, rfl⟩⟩; refine ⟨_, rfl, ?_⟩))
        go_ret3
        exact ⟨by first | rfl | (simp; done) | (simp [*]; done), by repeat (first | exact Drawn0.refl _ | apply Drawn0.step)⟩
  · rw [if_neg c4] at H
    have c4b0 : (t220 == 0) = false := beq_eq_false_iff_ne.mpr c4
    have c4b1 : (t220 != 0) = true := bne_iff_ne.mpr c4
    simp only [Option.some.injEq, Prod.mk.injEq] at H
    obtain ⟨rfl, rfl, rfl⟩ := H
    go_enter Try.func19, Try.ntmps19
    go_wp2_with (first | ((with_reducible refine gate_callee (f := 36) rfl ?_); refine goesL_ (some 12) rfl rfl Try.func36 (by kernel_rfl) rfl #[.slice A0 l0.length c0, .int .i64 a1] rfl (by (try simp only [List.map_toArray, List.map_cons, List.map_nil]); first | done | rfl | (simp only [List.length_drop, List.length_take]; rfl)) ?_; (with_reducible refine (avocetref04_one.calls k _ _ l0 a1 t219 t220 _ ?side1 ?side2 A3.out).mono ?_); (case side1 => repeat (first | exact HR0.out | (with_reducible refine Kd.C_alloc ?_ _) | (with_reducible refine Kd.C_drewN ?_ _) | (with_reducible refine Kd.C_drew ?_))); (case side2 => exact HC0.out); rintro e w' ⟨rfl, ⟨nd, rfl⟩⟩; refine ⟨_, rfl, ?_⟩))
    go_ret3
    exact ⟨by first | rfl | (simp; done) | (simp [*]; done), by repeat (first | exact Drawn0.refl _ | apply Drawn0.step)⟩

/-! ### avocetref01_digits: function 43 -/
mutual
def avocetref01_digits.j0 : Nat → List Int → Int → Int → Bool → Option (List Int × Int × Int)
  | 0, _, _, _, _ => none
  | k + 1, x0, x1, x2, x29 => if x29 = true then (some (([] : List Int), 0, 1)) else (avocetref01_digits.l0 k x0 x1 (wrap64 (Int.tdiv (wrap64 (x2 + 6)) 7)) ([] : List Int) 1)
def avocetref01_digits.l0 : Nat → List Int → Int → Int → List Int → Int → Option (List Int × Int × Int)
  | 0, _, _, _, _, _ => none
  | k + 1, x0, x1, x9, x10, x11 => if x1 ≥ (x0.length : Int) then (some (([] : List Int), 0, 2)) else (if 0 ≤ x1 then (if x1 < (x0.length : Int) then (if x11 = x9 then (avocetref01_digits.j2 k x0 (wrap64 (x1 + 1)) x9 x10 x11 (wrap64 (rd x0 x1)) (decide ((wrap64 (rd x0 x1)) ≥ 128))) else (avocetref01_digits.j2 k x0 (wrap64 (x1 + 1)) x9 x10 x11 (wrap64 (rd x0 x1)) false)) else (none)) else (none))
def avocetref01_digits.j2 : Nat → List Int → Int → Int → List Int → Int → Int → Bool → Option (List Int × Int × Int)
  | 0, _, _, _, _, _, _, _ => none
  | k + 1, x0, x1, x9, x10, x11, x12, x52 => if x52 = true then (some (([] : List Int), 0, 3)) else (avocetref01_digits.l1 k x0 x1 x9 x10 x11 x12 0)
def avocetref01_digits.l1 : Nat → List Int → Int → Int → List Int → Int → Int → Int → Option (List Int × Int × Int)
  | 0, _, _, _, _, _, _, _ => none
  | k + 1, x0, x1, x9, x10, x11, x12, x13 => if x13 < 7 then (if x10.length < 17592186044416 then (avocetref01_digits.l1 k x0 x1 x9 (x10 ++ [Int.tmod x12 2]) x11 (wrap64 (Int.tdiv x12 2)) (wrap64 (x13 + 1))) else (none)) else (if x12 = 0 then (some (x10, x1, 0)) else (avocetref01_digits.l0 k x0 x1 x9 x10 (wrap64 (x11 + 1))))
end
def avocetref01_digits.f (k : Nat) (l0 : List Int) (a1 : Int) (a2 : Int) : Option (List Int × Int × Int) := if a2 < 1 then (avocetref01_digits.j0 k l0 a1 a2 true) else (if a2 > 64 then (avocetref01_digits.j0 k l0 a1 a2 true) else (if a1 < 0 then (avocetref01_digits.j0 k l0 a1 a2 true) else (avocetref01_digits.j0 k l0 a1 a2 (decide (a1 > (l0.length : Int))))))
theorem avocetref01_digits.mono_l : ∀ k, (∀ y0 y1 y2 y3, LeO (avocetref01_digits.j0 k y0 y1 y2 y3) (avocetref01_digits.j0 (k + 1) y0 y1 y2 y3)) ∧ (∀ y0 y1 y2 y3 y4, LeO (avocetref01_digits.l0 k y0 y1 y2 y3 y4) (avocetref01_digits.l0 (k + 1) y0 y1 y2 y3 y4)) ∧ (∀ y0 y1 y2 y3 y4 y5 y6, LeO (avocetref01_digits.j2 k y0 y1 y2 y3 y4 y5 y6) (avocetref01_digits.j2 (k + 1) y0 y1 y2 y3 y4 y5 y6)) ∧ (∀ y0 y1 y2 y3 y4 y5 y6, LeO (avocetref01_digits.l1 k y0 y1 y2 y3 y4 y5 y6) (avocetref01_digits.l1 (k + 1) y0 y1 y2 y3 y4 y5 y6))
  | 0 => ⟨fun _ _ _ _ r h => by simp [avocetref01_digits.j0] at h, fun _ _ _ _ _ r h => by simp [avocetref01_digits.l0] at h, fun _ _ _ _ _ _ _ r h => by simp [avocetref01_digits.j2] at h, fun _ _ _ _ _ _ _ r h => by simp [avocetref01_digits.l1] at h⟩
  | k + 1 => by
    obtain ⟨ih0, ih1, ih2, ih3⟩ := avocetref01_digits.mono_l k
    refine ⟨?_, ?_, ?_, ?_⟩
    · intro y0 y1 y2 y3
      unfold avocetref01_digits.j0
      repeat' first
      | (with_reducible exact ih0 _ _ _ _)
      | (with_reducible exact ih1 _ _ _ _ _)
      | (with_reducible exact ih2 _ _ _ _ _ _ _)
      | (with_reducible exact ih3 _ _ _ _ _ _ _)
      | (with_reducible exact LeO.refl _)
      | (with_reducible exact LeO.none _)
      | (with_reducible refine LeO.ite ?_ ?_)
      | (with_reducible refine LeO.bind ?_ (fun _ => ?_))
      | exact ih0 _ _ _ _
      | exact ih1 _ _ _ _ _
      | exact ih2 _ _ _ _ _ _ _
      | exact ih3 _ _ _ _ _ _ _
      | exact LeO.none _
      | refine LeO.ite ?_ ?_
      | refine LeO.bind ?_ (fun _ => ?_)
    · intro y0 y1 y2 y3 y4
      unfold avocetref01_digits.l0
      repeat' first
      | (with_reducible exact ih0 _ _ _ _)
      | (with_reducible exact ih1 _ _ _ _ _)
      | (with_reducible exact ih2 _ _ _ _ _ _ _)
      | (with_reducible exact ih3 _ _ _ _ _ _ _)
      | (with_reducible exact LeO.refl _)
      | (with_reducible exact LeO.none _)
      | (with_reducible refine LeO.ite ?_ ?_)
      | (with_reducible refine LeO.bind ?_ (fun _ => ?_))
      | exact ih0 _ _ _ _
      | exact ih1 _ _ _ _ _
      | exact ih2 _ _ _ _ _ _ _
      | exact ih3 _ _ _ _ _ _ _
      | exact LeO.none _
      | refine LeO.ite ?_ ?_
      | refine LeO.bind ?_ (fun _ => ?_)
    · intro y0 y1 y2 y3 y4 y5 y6
      unfold avocetref01_digits.j2
      repeat' first
      | (with_reducible exact ih0 _ _ _ _)
      | (with_reducible exact ih1 _ _ _ _ _)
      | (with_reducible exact ih2 _ _ _ _ _ _ _)
      | (with_reducible exact ih3 _ _ _ _ _ _ _)
      | (with_reducible exact LeO.refl _)
      | (with_reducible exact LeO.none _)
      | (with_reducible refine LeO.ite ?_ ?_)
      | (with_reducible refine LeO.bind ?_ (fun _ => ?_))
      | exact ih0 _ _ _ _
      | exact ih1 _ _ _ _ _
      | exact ih2 _ _ _ _ _ _ _
      | exact ih3 _ _ _ _ _ _ _
      | exact LeO.none _
      | refine LeO.ite ?_ ?_
      | refine LeO.bind ?_ (fun _ => ?_)
    · intro y0 y1 y2 y3 y4 y5 y6
      unfold avocetref01_digits.l1
      repeat' first
      | (with_reducible exact ih0 _ _ _ _)
      | (with_reducible exact ih1 _ _ _ _ _)
      | (with_reducible exact ih2 _ _ _ _ _ _ _)
      | (with_reducible exact ih3 _ _ _ _ _ _ _)
      | (with_reducible exact LeO.refl _)
      | (with_reducible exact LeO.none _)
      | (with_reducible refine LeO.ite ?_ ?_)
      | (with_reducible refine LeO.bind ?_ (fun _ => ?_))
      | exact ih0 _ _ _ _
      | exact ih1 _ _ _ _ _
      | exact ih2 _ _ _ _ _ _ _
      | exact ih3 _ _ _ _ _ _ _
      | exact LeO.none _
      | refine LeO.ite ?_ ?_
      | refine LeO.bind ?_ (fun _ => ?_)
theorem avocetref01_digits.mono : ∀ a0 a1 a2 k, LeO (avocetref01_digits.f k a0 a1 a2) (avocetref01_digits.f (k + 1) a0 a1 a2) := by
  intro a0 a1 a2 k
  obtain ⟨ih0, ih1, ih2, ih3⟩ := avocetref01_digits.mono_l k
  unfold avocetref01_digits.f
  repeat' first
      | (with_reducible exact ih0 _ _ _ _)
      | (with_reducible exact ih1 _ _ _ _ _)
      | (with_reducible exact ih2 _ _ _ _ _ _ _)
      | (with_reducible exact ih3 _ _ _ _ _ _ _)
      | (with_reducible exact LeO.refl _)
      | (with_reducible exact LeO.none _)
      | (with_reducible refine LeO.ite ?_ ?_)
      | (with_reducible refine LeO.bind ?_ (fun _ => ?_))
      | exact ih0 _ _ _ _
      | exact ih1 _ _ _ _ _
      | exact ih2 _ _ _ _ _ _ _
      | exact ih3 _ _ _ _ _ _ _
      | exact LeO.none _
      | refine LeO.ite ?_ ?_
      | refine LeO.bind ?_ (fun _ => ?_)
set_option maxHeartbeats 8000000 in
set_option maxRecDepth 100000 in
theorem avocetref01_digits.calls (k : Nat) (A0 : Option Addr) (c0 : Nat) (l0 : List Int) (a1 : Int) (a2 : Int) (r1 : List Int) (r2 : Int) (r3 : Int) (w : World) (hr0 : Kd.C (Kd.int .u8) w A0 l0.length l0) (hc0 : l0.length ≤ c0) (h : avocetref01_digits.f k l0 a1 a2 = some (r1, r2, r3)) :
    Calls Try.prog 43 #[.slice A0 l0.length c0, .int .i64 a1, .int .i64 a2] w fun e w' => ∃ v0_ : Value, e = .returned (.tuple #[v0_, .int .i64 r2, .int .i64 r3]) ∧ Kd.R (Kd.int .i64) 3 w' w.heap.size (fun _ => True) v0_ r1 ∧ Below w.heap.size w w' := by
  have HR0 := Aside0.mk hr0
  have HC0 := Aside0.mk hc0
  clear hr0 hc0
  have HB := Aside0.mk (Below.refl w.heap.size w)
  have H : (if a2 < 1 then (avocetref01_digits.j0 k l0 a1 a2 true) else (if a2 > 64 then (avocetref01_digits.j0 k l0 a1 a2 true) else (if a1 < 0 then (avocetref01_digits.j0 k l0 a1 a2 true) else (avocetref01_digits.j0 k l0 a1 a2 (decide (a1 > (l0.length : Int))))))) = some (r1, r2, r3) := h
  clear h
  have HC4 := Aside0.mk H
  clear H
  go_enter Try.func43, Try.ntmps43
  go_upto_region 1 with (fail)
  go_cut [29] (fun v29 wc => ∃ (kq : Nat) (x29_3 : Bool), v29 = .bool x29_3 ∧ Aside0 (avocetref01_digits.j0 kq l0 a1 a2 x29_3 = some (r1, r2, r3)) ∧ Aside0 (kq ≤ k) ∧ Aside0 (Below w.heap.size w wc))
  case first =>
    have H := HC4.out
    clear HC4
    by_cases c5 : a2 < 1
    · rw [if_pos c5] at H
      have c5b0 : decide (a2 < 1) = true := decide_eq_true c5
      clear c5
      (first | rw [c5b0] | (simp only [i64_w, i32_w]; rw [c5b0]) | skip)
      have H' := Aside0.mk H
      clear H
      go_wp2
      go_meet
      case rel => exact ⟨_, (true), (by first | rfl | (simp; done) | (simp [*]; done)), H', ⟨by first | omega | exact Nat.le_refl _⟩, ⟨by repeat (first | (with_reducible first | exact HB.out | apply below_alloc | apply pw_below_drewN | apply below_drew1) | exact HB.out)⟩⟩
    · rw [if_neg c5] at H
      have c5b0 : decide (a2 < 1) = false := decide_eq_false c5
      clear c5
      (first | rw [c5b0] | (simp only [i64_w, i32_w]; rw [c5b0]) | skip)
      by_cases c6 : a2 > 64
      · rw [if_pos c6] at H
        have c6b0 : decide (64 < a2) = true := decide_eq_true c6
        clear c6
        have H' := Aside0.mk H
        clear H
        go_wp2
        go_meet
        case rel => exact ⟨_, (true), (by first | rfl | (simp; done) | (simp [*]; done)), H', ⟨by first | omega | exact Nat.le_refl _⟩, ⟨by repeat (first | (with_reducible first | exact HB.out | apply below_alloc | apply pw_below_drewN | apply below_drew1) | exact HB.out)⟩⟩
      · rw [if_neg c6] at H
        have c6b0 : decide (64 < a2) = false := decide_eq_false c6
        clear c6
        by_cases c7 : a1 < 0
        · rw [if_pos c7] at H
          have c7b0 : decide (a1 < 0) = true := decide_eq_true c7
          clear c7
          have H' := Aside0.mk H
          clear H
          go_wp2
          go_meet
          case rel => exact ⟨_, (true), (by first | rfl | (simp; done) | (simp [*]; done)), H', ⟨by first | omega | exact Nat.le_refl _⟩, ⟨by repeat (first | (with_reducible first | exact HB.out | apply below_alloc | apply pw_below_drewN | apply below_drew1) | exact HB.out)⟩⟩
        · rw [if_neg c7] at H
          have c7b0 : decide (a1 < 0) = false := decide_eq_false c7
          clear c7
          have H' := Aside0.mk H
          clear H
          go_wp2
          go_meet
          case rel => exact ⟨_, (decide (a1 > (l0.length : Int))), (by first | rfl | (simp; done) | (simp [*]; done)), H', ⟨by first | omega | exact Nat.le_refl _⟩, ⟨by repeat (first | (with_reducible first | exact HB.out | apply below_alloc | apply pw_below_drewN | apply below_drew1) | exact HB.out)⟩⟩
  case rest =>
    clear HC4
    try clear p2
    try clear c4
    try clear c5
    try clear c5b0
    try clear c6
    try clear c6b0
    try clear c7
    try clear c7b0
    obtain ⟨kq, x29_3, rfl, HA, HJ3, HB⟩ := hcut
    cases kq with
    | zero => exact absurd HA.out (by simp [avocetref01_digits.j0])
    | succ kj3 =>
      have H := HA.out
      clear HA
      simp only [avocetref01_digits.j0] at H
      by_cases c8 : x29_3 = true
      · subst c8
        have H1 : (some (([] : List Int), 0, 1)) = some (r1, r2, r3) := by rw [if_pos rfl] at H; exact H
        clear H
        have H := H1
        clear H1
        simp only [Option.some.injEq, Prod.mk.injEq] at H
        obtain ⟨rfl, rfl, rfl⟩ := H
        go_wp2
        go_ret3
        exact ⟨_, by first | rfl | (simp [errW_none, errW_some] <;> rfl) | (simp [*, errW_none, errW_some] <;> rfl), by first | exact Kd.R_nil _ _ _ _ _ | exact Kd.N_nil _ _ _ _ _ | exact Kd.V_nil _ _ _ _ _ | exact Kd.Q_nil _ _ _ _ _ | exact Kd.S_nil _ _ _ _ _, by repeat (first | (with_reducible first | exact HB.out | apply below_alloc | apply pw_below_drewN | apply below_drew1) | exact HB.out)⟩
      · replace c8 := Bool.eq_false_iff.mpr c8
        subst c8
        have H1 : (avocetref01_digits.l0 kj3 l0 a1 (wrap64 (Int.tdiv (wrap64 (a2 + 6)) 7)) ([] : List Int) 1) = some (r1, r2, r3) := by rw [if_neg (show ¬ (false = true) by decide)] at H; exact H
        clear H
        have H := H1
        clear H1
        have H' := Aside0.mk H
        clear H
        go_wp2
        go_loopg [1, 10, 11] kj3 (fun kq v1 v10 v11 w' => ∃ (x1_2 : Int) (x10_2 : List Int) (x11_2 : Int), v1 = .int .i64 x1_2 ∧ v11 = .int .i64 x11_2 ∧ Aside0 (avocetref01_digits.l0 kq l0 x1_2 (wrap64 (Int.tdiv (wrap64 (a2 + 6)) 7)) x10_2 x11_2 = some (r1, r2, r3)) ∧ Aside0 (kq ≤ kj3) ∧ Aside0 (Kd.R (Kd.int .i64) 3 w' w.heap.size (fun _ => True) v10 x10_2) ∧ Aside0 (Below w.heap.size w w'))
        case atStart => exact ⟨(a1), (([] : List Int)), (1), (by first | rfl | (simp; done) | (simp [*]; done)), (by first | rfl | (simp; done) | (simp [*]; done)), H', ⟨Nat.le_refl _⟩, ⟨by first | exact Kd.R_nil _ _ _ _ _ | exact Kd.N_nil _ _ _ _ _ | exact Kd.V_nil _ _ _ _ _ | exact Kd.Q_nil _ _ _ _ _ | exact Kd.S_nil _ _ _ _ _⟩, ⟨by repeat (first | (with_reducible first | exact HB.out | apply below_alloc | apply pw_below_drewN | apply below_drew1) | exact HB.out)⟩⟩
        case round =>
          clear H'
          try clear p2
          try clear c4
          try clear c5
          try clear c5b0
          try clear c6
          try clear c6b0
          try clear p6
          try clear c7
          try clear c7b0
          try clear c8
          try clear p2
          obtain ⟨x1_2, x10_2, x11_2, rfl, rfl, HA, HK2, HO_10, HB⟩ := hrel
          cases gk with
          | zero => exact absurd HA.out (by simp [avocetref01_digits.l0])
          | succ k2 =>
            have H := HA.out
            clear HA
            simp only [avocetref01_digits.l0] at H
            by_cases c9 : x1_2 ≥ (l0.length : Int)
            · rw [if_pos c9] at H
              have c9b0 : decide ((l0.length : Int) ≤ x1_2) = true := decide_eq_true c9
              clear c9
              simp only [Option.some.injEq, Prod.mk.injEq] at H
              obtain ⟨rfl, rfl, rfl⟩ := H
              go_wp2
              go_ret3
              exact ⟨_, by first | rfl | (simp [errW_none, errW_some] <;> rfl) | (simp [*, errW_none, errW_some] <;> rfl), by first | exact Kd.R_nil _ _ _ _ _ | exact Kd.N_nil _ _ _ _ _ | exact Kd.V_nil _ _ _ _ _ | exact Kd.Q_nil _ _ _ _ _ | exact Kd.S_nil _ _ _ _ _, by repeat (first | (with_reducible first | exact HB.out | apply below_alloc | apply pw_below_drewN | apply below_drew1) | exact HB.out)⟩
            · rw [if_neg c9] at H
              have c9b0 : decide ((l0.length : Int) ≤ x1_2) = false := decide_eq_false c9
              clear c9
              by_cases c10 : 0 ≤ x1_2
              · rw [if_pos c10] at H
                have c10b0 : decide (0 ≤ x1_2) = true := decide_eq_true c10
                clear c10
                by_cases c11 : x1_2 < (l0.length : Int)
                · rw [if_pos c11] at H
                  have c11b0 : decide (x1_2 < (l0.length : Int)) = true := decide_eq_true c11
                  clear c11
                  have HC12 := Aside0.mk H
                  clear H
                  have p221 : 0 ≤ (x1_2 : Int) := of_decide_eq_true (by first | (with_reducible assumption) | assumption)
                  have q221 : x1_2 < (l0.length : Int) := of_decide_eq_true (by first | (with_reducible assumption) | assumption)
                  obtain ⟨ad221, e221, hx221_0⟩ := Kd.at_int HR0.out x1_2 p221 q221
                  cases e221
                  replace hx221_0 := (HB.out.cell (World.block_lt_of_cell? w _ hx221_0)).trans hx221_0
                  replace p221 := eq_true p221
                  replace q221 := eq_true q221
                  go_upto_region 11 with (fail)
                  go_cut [52] (fun v52 wc => ∃ (kq : Nat) (x52_11 : Bool), v52 = .bool x52_11 ∧ Aside0 (avocetref01_digits.j2 kq l0 (wrap64 (x1_2 + 1)) (wrap64 (Int.tdiv (wrap64 (a2 + 6)) 7)) x10_2 x11_2 (wrap64 (rd l0 x1_2)) x52_11 = some (r1, r2, r3)) ∧ Aside0 (kq ≤ k2) ∧ Aside0 (Kd.R (Kd.int .i64) 3 wc w.heap.size (fun _ => True) u10 x10_2) ∧ Aside0 (Below w.heap.size w wc))
                  case first =>
                    have H := HC12.out
                    clear HC12
                    by_cases c13 : x11_2 = (wrap64 (Int.tdiv (wrap64 (a2 + 6)) 7))
                    · rw [if_pos c13] at H
                      have c13b0 : (x11_2 == (wrap64 (Int.tdiv (wrap64 (a2 + 6)) 7))) = true := beq_iff_eq.mpr c13
                      have c13b1 : (x11_2 != (wrap64 (Int.tdiv (wrap64 (a2 + 6)) 7))) = false := bne_eq_false_iff_eq.mpr c13
                      clear c13
                      (first | rw [c13b0] | (simp only [i64_w, i32_w]; rw [c13b0]) | skip)
                      have H' := Aside0.mk H
                      clear H
                      go_wp2
                      go_meet
                      case rel => exact ⟨_, (decide ((wrap64 (rd l0 x1_2)) ≥ 128)), (by first | rfl | (simp; done) | (simp [*]; done)), H', ⟨by have := HJ3.out; have := HK2.out; first | omega | exact Nat.le_refl _⟩, ⟨by (with_reducible repeat (first | apply Kd.R_alloc | apply Kd.R_drewN | apply Kd.R_drew)); exact HO_10.out⟩, ⟨by repeat (first | (with_reducible first | exact HB.out | apply below_alloc | apply pw_below_drewN | apply below_drew1) | exact HB.out)⟩⟩
                    · rw [if_neg c13] at H
                      have c13b0 : (x11_2 == (wrap64 (Int.tdiv (wrap64 (a2 + 6)) 7))) = false := beq_eq_false_iff_ne.mpr c13
                      have c13b1 : (x11_2 != (wrap64 (Int.tdiv (wrap64 (a2 + 6)) 7))) = true := bne_iff_ne.mpr c13
                      (first | rw [c13b0] | (simp only [i64_w, i32_w]; rw [c13b0]) | skip)
                      have H' := Aside0.mk H
                      clear H
                      go_wp2
                      go_meet
                      case rel => exact ⟨_, (false), (by first | rfl | (simp; done) | (simp [*]; done)), H', ⟨by have := HJ3.out; have := HK2.out; first | omega | exact Nat.le_refl _⟩, ⟨by (with_reducible repeat (first | apply Kd.R_alloc | apply Kd.R_drewN | apply Kd.R_drew)); exact HO_10.out⟩, ⟨by repeat (first | (with_reducible first | exact HB.out | apply below_alloc | apply pw_below_drewN | apply below_drew1) | exact HB.out)⟩⟩
                  case rest =>
                    clear HC12
                    try clear c1
                    try clear p2
                    try clear q2
                    try clear hx2
                    try clear c4
                    try clear c5
                    try clear c5b0
                    try clear c6
                    try clear c6b0
                    try clear p6
                    try clear c7
                    try clear c7b0
                    try clear c8
                    try clear c9
                    try clear c9b0
                    try clear c10
                    try clear c10b0
                    try clear c11
                    try clear c11b0
                    try clear c13
                    try clear c13b0
                    try clear c13b1
                    try clear hx221_0
                    try clear p2
                    try clear p221
                    try clear p6
                    try clear q221
                    obtain ⟨kq, x52_11, rfl, HA, HJ11, HO_10, HB⟩ := hcut
                    cases kq with
                    | zero => exact absurd HA.out (by simp [avocetref01_digits.j2])
                    | succ kj11 =>
                      have H := HA.out
                      clear HA
                      simp only [avocetref01_digits.j2] at H
                      by_cases c14 : x52_11 = true
                      · subst c14
                        have H1 : (some (([] : List Int), 0, 3)) = some (r1, r2, r3) := by rw [if_pos rfl] at H; exact H
                        clear H
                        have H := H1
                        clear H1
                        simp only [Option.some.injEq, Prod.mk.injEq] at H
                        obtain ⟨rfl, rfl, rfl⟩ := H
                        go_wp2
                        go_ret3
                        exact ⟨_, by first | rfl | (simp [errW_none, errW_some] <;> rfl) | (simp [*, errW_none, errW_some] <;> rfl), by first | exact Kd.R_nil _ _ _ _ _ | exact Kd.N_nil _ _ _ _ _ | exact Kd.V_nil _ _ _ _ _ | exact Kd.Q_nil _ _ _ _ _ | exact Kd.S_nil _ _ _ _ _, by repeat (first | (with_reducible first | exact HB.out | apply below_alloc | apply pw_below_drewN | apply below_drew1) | exact HB.out)⟩
                      · replace c14 := Bool.eq_false_iff.mpr c14
                        subst c14
                        have H1 : (avocetref01_digits.l1 kj11 l0 (wrap64 (x1_2 + 1)) (wrap64 (Int.tdiv (wrap64 (a2 + 6)) 7)) x10_2 x11_2 (wrap64 (rd l0 x1_2)) 0) = some (r1, r2, r3) := by rw [if_neg (show ¬ (false = true) by decide)] at H; exact H
                        clear H
                        have H := H1
                        clear H1
                        have H' := Aside0.mk H
                        clear H
                        go_wp2
                        go_loopg [10, 12, 13] kj11 (fun kq v10 v12 v13 w' => ∃ (x10_4 : List Int) (x12_4 : Int) (x13_4 : Int), v12 = .int .i64 x12_4 ∧ v13 = .int .i64 x13_4 ∧ Aside0 (avocetref01_digits.l1 kq l0 (wrap64 (x1_2 + 1)) (wrap64 (Int.tdiv (wrap64 (a2 + 6)) 7)) x10_4 x11_2 x12_4 x13_4 = some (r1, r2, r3)) ∧ Aside0 (kq ≤ kj11) ∧ Aside0 (Kd.R (Kd.int .i64) 3 w' w.heap.size (fun _ => True) v10 x10_4) ∧ Aside0 (Below w.heap.size w w'))
                        case atStart => exact ⟨(x10_2), ((wrap64 (rd l0 x1_2))), (0), (by first | rfl | (simp; done) | (simp [*]; done)), (by first | rfl | (simp; done) | (simp [*]; done)), H', ⟨Nat.le_refl _⟩, ⟨by (with_reducible repeat (first | apply Kd.R_alloc | apply Kd.R_drewN | apply Kd.R_drew)); exact HO_10.out⟩, ⟨by repeat (first | (with_reducible first | exact HB.out | apply below_alloc | apply pw_below_drewN | apply below_drew1) | exact HB.out)⟩⟩
                        case round =>
                          clear H'
                          try clear c1
                          try clear p2
                          try clear q2
                          try clear hx2
                          try clear c4
                          try clear c5
                          try clear c5b0
                          try clear c6
                          try clear c6b0
                          try clear p6
                          try clear c7
                          try clear c7b0
                          try clear c8
                          try clear c9
                          try clear c9b0
                          try clear c10
                          try clear c10b0
                          try clear c11
                          try clear c11b0
                          try clear c13
                          try clear c13b0
                          try clear c13b1
                          try clear c14
                          try clear hx221_0
                          try clear p2
                          try clear p221
                          try clear p6
                          try clear q2
                          try clear q221
                          obtain ⟨x10_4, x12_4, x13_4, rfl, rfl, HA, HK4, HO_10, HB⟩ := hrel
                          cases gk with
                          | zero => exact absurd HA.out (by simp [avocetref01_digits.l1])
                          | succ k4 =>
                            have H := HA.out
                            clear HA
                            simp only [avocetref01_digits.l1] at H
                            by_cases c15 : x13_4 < 7
                            · rw [if_pos c15] at H
                              have c15b0 : decide (x13_4 < 7) = true := decide_eq_true c15
                              clear c15
                              by_cases c16 : x10_4.length < 17592186044416
                              · rw [if_pos c16] at H
                                have LMc16 := Aside0.mk c16
                                clear c16
                                obtain ⟨y222, hy222⟩ : ∃ y_ : List Int, y_ = (x10_4 ++ [Int.tmod x12_4 2]) := ⟨_, rfl⟩
                                replace H : (avocetref01_digits.l1 k4 l0 (wrap64 (x1_2 + 1)) (wrap64 (Int.tdiv (wrap64 (a2 + 6)) 7)) y222 x11_2 (wrap64 (Int.tdiv x12_4 2)) (wrap64 (x13_4 + 1))) = some (r1, r2, r3) := by first | (rw [hy222]; with_reducible exact H) | (have H2_ := (Option.bind_some _ _).symm.trans H; rw [hy222]; with_reducible exact H2_) | (have H2_ := (Option.bind_some _ _).symm.trans H; with_reducible exact H2_) | with_reducible exact H | (rw [hy222]; exact H) | exact H
                                have Ny222 := Aside0.mk hy222
                                clear hy222
                                have H' := Aside0.mk H
                                clear H
                                go_wp2_with (first | ((with_reducible refine gate_builtin (b := .append) (xs := #[.tmp 57, .tmp 60]) rfl ?_); (try (refine gate_guard (by rfl) ?_; dsimp only)); at_builtin; refine Kd.R_append (Kd.int .i64) (w0 := w) w.heap.size rfl (.tmp 57) (.tmp 60) 58 3 (.int .i64 0) 8 rfl Try.underlying58 info3 rfl (by decide) (by omega) u10 x10_4 (Int.tmod x12_4 2) [.int .i64 (Int.tmod x12_4 2)] (fun _ => True) (fun _ => False) rfl rfl ?aP (fun _ hk => hk.elim) ?aF ?aO ?aB ?aS ?aL ?_; (case aP => exact rfl); (case aB => exact (by repeat (first | (with_reducible first | exact HB.out | apply below_alloc | apply pw_below_drewN | apply below_drew1) | exact HB.out))); (case aF => exact (fun _ _ => trivial)); (case aO => exact (by (with_reducible repeat (first | apply Kd.R_alloc | apply Kd.R_drewN | apply Kd.R_drew)); exact HO_10.out)); (case aS => exact (below_size (by repeat (first | (with_reducible first | exact HB.out | apply below_alloc | apply pw_below_drewN | apply below_drew1) | exact HB.out)))); (case aL => have := LMc16.out; omega); intro v223 w17 ho hb hg hat; rw [← Ny222.out] at ho; have n0_ := Aside0.mk (hb); have n1_ := Aside0.mk (ho); clear HB; clear HO_10; have HB := n0_; have HO224 := n1_; clear n0_ n1_; clear ho hb hg hat))
                                go_roundg k4
                                case measure => have := HJ3.out; have := HK2.out; have := HJ11.out; have := HK4.out; omega
                                case rel => exact ⟨(y222), (wrap64 (Int.tdiv x12_4 2)), (wrap64 (x13_4 + 1)), (by first | rfl | (simp; done) | (simp [*]; done)), (by first | rfl | (simp; done) | (simp [*]; done)), H', ⟨by have := HJ3.out; have := HK2.out; have := HJ11.out; have := HK4.out; omega⟩, ⟨by (with_reducible repeat (first | apply Kd.R_alloc | apply Kd.R_drewN | apply Kd.R_drew)); exact HO224.out⟩, ⟨by repeat (first | (with_reducible first | exact HB.out | apply below_alloc | apply pw_below_drewN | apply below_drew1) | exact HB.out)⟩⟩
                              · rw [if_neg c16] at H
                                exact absurd H (by simp)
                            · rw [if_neg c15] at H
                              have c15b0 : decide (x13_4 < 7) = false := decide_eq_false c15
                              clear c15
                              by_cases c18 : x12_4 = 0
                              · rw [if_pos c18] at H
                                have c18b0 : (x12_4 == 0) = true := beq_iff_eq.mpr c18
                                have c18b1 : (x12_4 != 0) = false := bne_eq_false_iff_eq.mpr c18
                                clear c18
                                simp only [Option.some.injEq, Prod.mk.injEq] at H
                                obtain ⟨rfl, rfl, rfl⟩ := H
                                go_wp2
                                go_ret3
                                exact ⟨_, by first | rfl | (simp [errW_none, errW_some] <;> rfl) | (simp [*, errW_none, errW_some] <;> rfl), by (with_reducible repeat (first | apply Kd.R_alloc | apply Kd.R_drewN | apply Kd.R_drew)); exact HO_10.out, by repeat (first | (with_reducible first | exact HB.out | apply below_alloc | apply pw_below_drewN | apply below_drew1) | exact HB.out)⟩
                              · rw [if_neg c18] at H
                                have c18b0 : (x12_4 == 0) = false := beq_eq_false_iff_ne.mpr c18
                                have c18b1 : (x12_4 != 0) = true := bne_iff_ne.mpr c18
                                have H' := Aside0.mk H
                                clear H
                                go_wp2
                                go_roundg k4
                                case measure => have := HJ3.out; have := HK2.out; have := HJ11.out; have := HK4.out; omega
                                case rel => exact ⟨((wrap64 (x1_2 + 1))), (x10_4), (wrap64 (x11_2 + 1)), (by first | rfl | (simp; done) | (simp [*]; done)), (by first | rfl | (simp; done) | (simp [*]; done)), H', ⟨by have := HJ3.out; have := HK2.out; have := HJ11.out; have := HK4.out; omega⟩, ⟨by (with_reducible repeat (first | apply Kd.R_alloc | apply Kd.R_drewN | apply Kd.R_drew)); exact HO_10.out⟩, ⟨by repeat (first | (with_reducible first | exact HB.out | apply below_alloc | apply pw_below_drewN | apply below_drew1) | exact HB.out)⟩⟩
                · rw [if_neg c11] at H
                  exact absurd H (by simp)
              · rw [if_neg c10] at H
                exact absurd H (by simp)

/-! ### avocetref01_ReadU: function 38 -/
def avocetref01_ReadU.l0 : Nat → Int → List Int → Int → Int → Int → Option (Int × Int × Int)
  | 0, _, _, _, _, _ => none
  | k + 1, x2, x9, x10, x12, x13 => if x13 ≥ 0 then (if x13 ≥ x2 then (if 0 ≤ x13 then (if x13 < (x9.length : Int) then (if (rd x9 x13) = 0 then (avocetref01_ReadU.l0 k x2 x9 x10 (IntKind.u64.wrap ((IntKind.u64.wrap (x12 * 2)) + (IntKind.u64.wrap (rd x9 x13)))) (wrap64 (x13 - 1))) else (some (0, 0, 3))) else (none)) else (none)) else (if 0 ≤ x13 then (if x13 < (x9.length : Int) then (avocetref01_ReadU.l0 k x2 x9 x10 (IntKind.u64.wrap ((IntKind.u64.wrap (x12 * 2)) + (IntKind.u64.wrap (rd x9 x13)))) (wrap64 (x13 - 1))) else (none)) else (none))) else (some (x12, x10, 0))
def avocetref01_ReadU.f (k : Nat) (l0 : List Int) (a1 : Int) (a2 : Int) : Option (Int × Int × Int) := (avocetref01_digits.f k l0 a1 a2).bind fun bt225 => (if bt225.2.2 = 0 then (avocetref01_ReadU.l0 k a2 bt225.1 bt225.2.1 0 (wrap64 ((bt225.1.length : Int) - 1))) else (some (0, 0, bt225.2.2)))
theorem avocetref01_ReadU.mono_l : ∀ k, (∀ y0 y1 y2 y3 y4, LeO (avocetref01_ReadU.l0 k y0 y1 y2 y3 y4) (avocetref01_ReadU.l0 (k + 1) y0 y1 y2 y3 y4))
  | 0 => fun _ _ _ _ _ r h => by simp [avocetref01_ReadU.l0] at h
  | k + 1 => by
    have ih0 := avocetref01_ReadU.mono_l k
    · intro y0 y1 y2 y3 y4
      unfold avocetref01_ReadU.l0
      repeat' first
      | (with_reducible exact ih0 _ _ _ _ _)
      | (with_reducible exact avocetref01_digits.mono _ _ _ _)
      | (with_reducible exact LeO.refl _)
      | (with_reducible exact LeO.none _)
      | (with_reducible refine LeO.ite ?_ ?_)
      | (with_reducible refine LeO.bind ?_ (fun _ => ?_))
      | exact ih0 _ _ _ _ _
      | exact avocetref01_digits.mono _ _ _ _
      | exact LeO.none _
      | refine LeO.ite ?_ ?_
      | refine LeO.bind ?_ (fun _ => ?_)
theorem avocetref01_ReadU.mono : ∀ a0 a1 a2 k, LeO (avocetref01_ReadU.f k a0 a1 a2) (avocetref01_ReadU.f (k + 1) a0 a1 a2) := by
  intro a0 a1 a2 k
  have ih0 := avocetref01_ReadU.mono_l k
  unfold avocetref01_ReadU.f
  repeat' first
      | (with_reducible exact ih0 _ _ _ _ _)
      | (with_reducible exact avocetref01_digits.mono _ _ _ _)
      | (with_reducible exact LeO.refl _)
      | (with_reducible exact LeO.none _)
      | (with_reducible refine LeO.ite ?_ ?_)
      | (with_reducible refine LeO.bind ?_ (fun _ => ?_))
      | exact ih0 _ _ _ _ _
      | exact avocetref01_digits.mono _ _ _ _
      | exact LeO.none _
      | refine LeO.ite ?_ ?_
      | refine LeO.bind ?_ (fun _ => ?_)
set_option maxHeartbeats 8000000 in
set_option maxRecDepth 100000 in
theorem avocetref01_ReadU.calls (k : Nat) (A0 : Option Addr) (c0 : Nat) (l0 : List Int) (a1 : Int) (a2 : Int) (r1 : Int) (r2 : Int) (r3 : Int) (w : World) (hr0 : Kd.C (Kd.int .u8) w A0 l0.length l0) (hc0 : l0.length ≤ c0) (h : avocetref01_ReadU.f k l0 a1 a2 = some (r1, r2, r3)) :
    Calls Try.prog 38 #[.slice A0 l0.length c0, .int .i64 a1, .int .i64 a2] w fun e w' => e = .returned (.tuple #[.int .u64 r1, .int .i64 r2, .int .i64 r3]) ∧ Below w.heap.size w w' := by
  have HR0 := Aside0.mk hr0
  have HC0 := Aside0.mk hc0
  clear hr0 hc0
  have HB := Aside0.mk (Below.refl w.heap.size w)
  have H : ((avocetref01_digits.f k l0 a1 a2).bind fun bt225 => (if bt225.2.2 = 0 then (avocetref01_ReadU.l0 k a2 bt225.1 bt225.2.1 0 (wrap64 ((bt225.1.length : Int) - 1))) else (some (0, 0, bt225.2.2)))) = some (r1, r2, r3) := h
  clear h
  replace H := Option.bind_eq_some_iff.mp H
  obtain ⟨⟨t225, t226, t227⟩, A40, H⟩ := H
  replace H : (if t227 = 0 then (avocetref01_ReadU.l0 k a2 t225 t226 0 (wrap64 ((t225.length : Int) - 1))) else (some (0, 0, t227))) = some (r1, r2, r3) := H
  have A4 := Aside0.mk A40
  clear A40
  by_cases c5 : t227 = 0
  · rw [if_pos c5] at H
    have c5b0 : (t227 == 0) = true := beq_iff_eq.mpr c5
    have c5b1 : (t227 != 0) = false := bne_eq_false_iff_eq.mpr c5
    clear c5
    have H' := Aside0.mk H
    clear H
    go_enter Try.func38, Try.ntmps38
    go_wp2_with (first | ((with_reducible refine gate_callee (f := 43) rfl ?_); refine goesL_ (some 18) rfl rfl Try.func43 (by kernel_rfl) rfl #[.slice A0 l0.length c0, .int .i64 a1, .int .i64 a2] rfl (by (try simp only [List.map_toArray, List.map_cons, List.map_nil]); first | done | rfl | (simp only [List.length_drop, List.length_take]; rfl)) ?_; (with_reducible refine (avocetref01_digits.calls k _ _ l0 a1 a2 t225 t226 t227 _ ?side1 ?side2 A4.out).mono ?_); (case side1 => repeat (first | exact HR0.out | (with_reducible refine Kd.C_alloc ?_ _) | (with_reducible refine Kd.C_drewN ?_ _) | (with_reducible refine Kd.C_drew ?_))); (case side2 => exact HC0.out); rintro e w6 ⟨v228, rfl, ho0, hb⟩; refine ⟨_, rfl, ?_⟩; have n0_ := Aside0.mk (Kd.R_lower ho0 (below_size (by repeat (first | (with_reducible first | exact HB.out | apply below_alloc | apply pw_below_drewN | apply below_drew1) | exact HB.out)))); have n1_ := Aside0.mk (below_step (by repeat (first | (with_reducible first | exact HB.out | apply below_alloc | apply pw_below_drewN | apply below_drew1) | exact HB.out)) hb); clear HB; have HO229 := n0_; have HB := n1_; clear n0_ n1_; (try clear hb); (try clear hb2); (try clear hk); (try clear hi); (try clear ho0); obtain ⟨Ao7, co7, eo7⟩ := Kd.R_slice HO229.out; subst eo7))
    go_loopg [12, 13] k (fun kq v12 v13 w' => ∃ (x12_1 : Int) (x13_1 : Int), v12 = .int .u64 x12_1 ∧ v13 = .int .i64 x13_1 ∧ Aside0 (avocetref01_ReadU.l0 kq a2 t225 t226 x12_1 x13_1 = some (r1, r2, r3)) ∧ Aside0 (kq ≤ k) ∧ Aside0 (Kd.R (Kd.int .i64) 3 w' w.heap.size (fun _ => True) (.slice Ao7 t225.length co7) t225) ∧ Aside0 (Below w.heap.size w w'))
    case atStart => exact ⟨(0), (wrap64 ((t225.length : Int) - 1)), (by first | rfl | (simp; done) | (simp [*]; done)), (by first | rfl | (simp; done) | (simp [*]; done)), H', ⟨Nat.le_refl _⟩, ⟨by (with_reducible repeat (first | apply Kd.R_alloc | apply Kd.R_drewN | apply Kd.R_drew)); exact HO229.out⟩, ⟨by repeat (first | (with_reducible first | exact HB.out | apply below_alloc | apply pw_below_drewN | apply below_drew1) | exact HB.out)⟩⟩
    case round =>
      clear H'
      try clear p2
      try clear c3
      try clear c4
      try clear c5
      try clear c5b0
      try clear c5b1
      try clear p6
      obtain ⟨x12_1, x13_1, rfl, rfl, HA, HK1, HO_9, HB⟩ := hrel
      cases gk with
      | zero => exact absurd HA.out (by simp [avocetref01_ReadU.l0])
      | succ k1 =>
        have H := HA.out
        clear HA
        simp only [avocetref01_ReadU.l0] at H
        by_cases c8 : x13_1 ≥ 0
        · rw [if_pos c8] at H
          have c8b0 : decide (0 ≤ x13_1) = true := decide_eq_true c8
          clear c8
          by_cases c9 : x13_1 ≥ a2
          · rw [if_pos c9] at H
            have c9b0 : decide (a2 ≤ x13_1) = true := decide_eq_true c9
            clear c9
            by_cases c10 : 0 ≤ x13_1
            · rw [if_pos c10] at H
              have c10b0 : decide (0 ≤ x13_1) = true := decide_eq_true c10
              clear c10
              by_cases c11 : x13_1 < (t225.length : Int)
              · rw [if_pos c11] at H
                have c11b0 : decide (x13_1 < (t225.length : Int)) = true := decide_eq_true c11
                clear c11
                by_cases c12 : (rd t225 x13_1) = 0
                · rw [if_pos c12] at H
                  have c12b0 : ((rd t225 x13_1) == 0) = true := beq_iff_eq.mpr c12
                  have c12b1 : ((rd t225 x13_1) != 0) = false := bne_eq_false_iff_eq.mpr c12
                  clear c12
                  have H' := Aside0.mk H
                  clear H
                  have p230 : 0 ≤ (x13_1 : Int) := of_decide_eq_true (by first | (with_reducible assumption) | assumption)
                  have q230 : x13_1 < (t225.length : Int) := of_decide_eq_true (by first | (with_reducible assumption) | assumption)
                  obtain ⟨ad230, e230, hx230_0⟩ := Kd.at_int (Kd.R_reads' HO_9.out).2.2 x13_1 p230 q230
                  cases e230
                  replace p230 := eq_true p230
                  replace q230 := eq_true q230
                  have p231 : 0 ≤ (x13_1 : Int) := of_decide_eq_true (by first | (with_reducible assumption) | assumption)
                  have q231 : x13_1 < (t225.length : Int) := of_decide_eq_true (by first | (with_reducible assumption) | assumption)
                  obtain ⟨ad231, e231, hx231_0⟩ := Kd.at_int (Kd.R_reads' HO_9.out).2.2 x13_1 p231 q231
                  obtain rfl : ad230 = ad231 := (by injection e231)
                  replace p231 := eq_true p231
                  replace q231 := eq_true q231
                  go_wp2
                  go_roundg k1
                  case measure => have := HK1.out; omega
                  case rel => exact ⟨(IntKind.u64.wrap ((IntKind.u64.wrap (x12_1 * 2)) + (IntKind.u64.wrap (rd t225 x13_1)))), (wrap64 (x13_1 - 1)), (by first | rfl | (simp; done) | (simp [*]; done)), (by first | rfl | (simp; done) | (simp [*]; done)), H', ⟨by have := HK1.out; omega⟩, ⟨by (with_reducible repeat (first | apply Kd.R_alloc | apply Kd.R_drewN | apply Kd.R_drew)); exact HO_9.out⟩, ⟨by repeat (first | (with_reducible first | exact HB.out | apply below_alloc | apply pw_below_drewN | apply below_drew1) | exact HB.out)⟩⟩
                · rw [if_neg c12] at H
                  have c12b0 : ((rd t225 x13_1) == 0) = false := beq_eq_false_iff_ne.mpr c12
                  have c12b1 : ((rd t225 x13_1) != 0) = true := bne_iff_ne.mpr c12
                  simp only [Option.some.injEq, Prod.mk.injEq] at H
                  obtain ⟨rfl, rfl, rfl⟩ := H
                  have p230 : 0 ≤ (x13_1 : Int) := of_decide_eq_true (by first | (with_reducible assumption) | assumption)
                  have q230 : x13_1 < (t225.length : Int) := of_decide_eq_true (by first | (with_reducible assumption) | assumption)
                  obtain ⟨ad230, e230, hx230_0⟩ := Kd.at_int (Kd.R_reads' HO_9.out).2.2 x13_1 p230 q230
                  cases e230
                  replace p230 := eq_true p230
                  replace q230 := eq_true q230
                  go_wp2
                  go_ret3
                  exact ⟨by first | rfl | (simp [errW_none, errW_some] <;> rfl) | (simp [*, errW_none, errW_some] <;> rfl), by repeat (first | (with_reducible first | exact HB.out | apply below_alloc | apply pw_below_drewN | apply below_drew1) | exact HB.out)⟩
              · rw [if_neg c11] at H
                exact absurd H (by simp)
            · rw [if_neg c10] at H
              exact absurd H (by simp)
          · rw [if_neg c9] at H
            have c9b0 : decide (a2 ≤ x13_1) = false := decide_eq_false c9
            clear c9
            by_cases c13 : 0 ≤ x13_1
            · rw [if_pos c13] at H
              have c13b0 : decide (0 ≤ x13_1) = true := decide_eq_true c13
              clear c13
              by_cases c14 : x13_1 < (t225.length : Int)
              · rw [if_pos c14] at H
                have c14b0 : decide (x13_1 < (t225.length : Int)) = true := decide_eq_true c14
                clear c14
                have H' := Aside0.mk H
                clear H
                have p232 : 0 ≤ (x13_1 : Int) := of_decide_eq_true (by first | (with_reducible assumption) | assumption)
                have q232 : x13_1 < (t225.length : Int) := of_decide_eq_true (by first | (with_reducible assumption) | assumption)
                obtain ⟨ad232, e232, hx232_0⟩ := Kd.at_int (Kd.R_reads' HO_9.out).2.2 x13_1 p232 q232
                cases e232
                replace p232 := eq_true p232
                replace q232 := eq_true q232
                go_wp2
                go_roundg k1
                case measure => have := HK1.out; omega
                case rel => exact ⟨(IntKind.u64.wrap ((IntKind.u64.wrap (x12_1 * 2)) + (IntKind.u64.wrap (rd t225 x13_1)))), (wrap64 (x13_1 - 1)), (by first | rfl | (simp; done) | (simp [*]; done)), (by first | rfl | (simp; done) | (simp [*]; done)), H', ⟨by have := HK1.out; omega⟩, ⟨by (with_reducible repeat (first | apply Kd.R_alloc | apply Kd.R_drewN | apply Kd.R_drew)); exact HO_9.out⟩, ⟨by repeat (first | (with_reducible first | exact HB.out | apply below_alloc | apply pw_below_drewN | apply below_drew1) | exact HB.out)⟩⟩
              · rw [if_neg c14] at H
                exact absurd H (by simp)
            · rw [if_neg c13] at H
              exact absurd H (by simp)
        · rw [if_neg c8] at H
          have c8b0 : decide (0 ≤ x13_1) = false := decide_eq_false c8
          clear c8
          simp only [Option.some.injEq, Prod.mk.injEq] at H
          obtain ⟨rfl, rfl, rfl⟩ := H
          go_wp2
          go_ret3
          exact ⟨by first | rfl | (simp [errW_none, errW_some] <;> rfl) | (simp [*, errW_none, errW_some] <;> rfl), by repeat (first | (with_reducible first | exact HB.out | apply below_alloc | apply pw_below_drewN | apply below_drew1) | exact HB.out)⟩
  · rw [if_neg c5] at H
    have c5b0 : (t227 == 0) = false := beq_eq_false_iff_ne.mpr c5
    have c5b1 : (t227 != 0) = true := bne_iff_ne.mpr c5
    simp only [Option.some.injEq, Prod.mk.injEq] at H
    obtain ⟨rfl, rfl, rfl⟩ := H
    go_enter Try.func38, Try.ntmps38
    go_wp2_with (first | ((with_reducible refine gate_callee (f := 43) rfl ?_); refine goesL_ (some 18) rfl rfl Try.func43 (by kernel_rfl) rfl #[.slice A0 l0.length c0, .int .i64 a1, .int .i64 a2] rfl (by (try simp only [List.map_toArray, List.map_cons, List.map_nil]); first | done | rfl | (simp only [List.length_drop, List.length_take]; rfl)) ?_; (with_reducible refine (avocetref01_digits.calls k _ _ l0 a1 a2 t225 t226 t227 _ ?side1 ?side2 A4.out).mono ?_); (case side1 => repeat (first | exact HR0.out | (with_reducible refine Kd.C_alloc ?_ _) | (with_reducible refine Kd.C_drewN ?_ _) | (with_reducible refine Kd.C_drew ?_))); (case side2 => exact HC0.out); rintro e w15 ⟨v228, rfl, ho0, hb⟩; refine ⟨_, rfl, ?_⟩; have n0_ := Aside0.mk (Kd.R_lower ho0 (below_size (by repeat (first | (with_reducible first | exact HB.out | apply below_alloc | apply pw_below_drewN | apply below_drew1) | exact HB.out)))); have n1_ := Aside0.mk (below_step (by repeat (first | (with_reducible first | exact HB.out | apply below_alloc | apply pw_below_drewN | apply below_drew1) | exact HB.out)) hb); clear HB; have HO229 := n0_; have HB := n1_; clear n0_ n1_; (try clear hb); (try clear hb2); (try clear hk); (try clear hi); (try clear ho0)))
    go_ret3
    exact ⟨by first | rfl | (simp [errW_none, errW_some] <;> rfl) | (simp [*, errW_none, errW_some] <;> rfl), by repeat (first | (with_reducible first | exact HB.out | apply below_alloc | apply pw_below_drewN | apply below_drew1) | exact HB.out)⟩

end Go.Proofs.Ythddcbfgdpfcjaa.G
