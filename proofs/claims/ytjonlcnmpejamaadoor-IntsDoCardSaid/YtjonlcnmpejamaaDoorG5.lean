-- Made by gprint.py (mine) over the kit's print.py, out of the translation; parts of it typed by hand.
import Derived.Test.YtjonlcnmpejamaaDoorG0
import Derived.Test.YtjonlcnmpejamaaDoorG4
namespace Go.Proofs.YtjonlcnmpejamaaDoor.G
open Go.RowKit Go.Proofs.YtjonlcnmpejamaaDoorW.PrintWords Go.Proofs.YtjonlcnmpejamaaDoorW.PrintLast Go.Proofs.YtjonlcnmpejamaaDoorW.PrintMore
attribute [local go_sem] max2_int min2_int max_two min_two max_three min_three max_four min_four   -- for this text's walks alone
set_option linter.unusedVariables false
set_option linter.unusedSimpArgs false

/-! ### avocetref02_One: function 18 -/
mutual
def avocetref02_One.j0 : Nat → Int → Int → Int → Int → Bool → Option (Int × Bool)
  | 0, _, _, _, _, _ => none
  | k + 1, x0, x1, x6, x7, x13 => if x13 = true then ((avocetref02_low.f x1 32).bind fun t177 => (some (t177, true))) else (if x0 = 172 then ((avocetref02_low.f x1 32).bind fun t178 => ((avocetref02_signed.f t178 32).bind fun t179 => (some (IntKind.u64.wrap (t179), true)))) else (if x6 = 0 then ((avocetref02_low.f x1 x7).bind fun t180 => ((avocetref02_yes.f (t180 == 0)).bind fun t181 => (some (t181, true)))) else (if x6 ≥ 11 then (avocetref02_One.j1 k x1 x6 x7 (decide (x6 ≤ 13))) else (avocetref02_One.j1 k x1 x6 x7 false))))
def avocetref02_One.j1 : Nat → Int → Int → Int → Bool → Option (Int × Bool)
  | 0, _, _, _, _ => none
  | k + 1, x1, x6, x7, x37 => if x37 = true then ((avocetref02_low.f x1 x7).bind fun t182 => ((avocetref02_counted.f k (wrap64 (x6 - 11)) t182 x7).bind fun t183 => (some (t183, true)))) else (some (0, false))
end
def avocetref02_One.f (k : Nat) (a0 : Int) (a1 : Int) : Option (Int × Bool) := (avocetref02_kind.f k a0).bind fun bt175 => (if a0 = 167 then (avocetref02_One.j0 k a0 a1 bt175.1 bt175.2 true) else (avocetref02_One.j0 k a0 a1 bt175.1 bt175.2 (a0 == 173)))
theorem avocetref02_One.mono_l : ∀ k, (∀ y0 y1 y2 y3 y4, LeO (avocetref02_One.j0 k y0 y1 y2 y3 y4) (avocetref02_One.j0 (k + 1) y0 y1 y2 y3 y4)) ∧ (∀ y0 y1 y2 y3, LeO (avocetref02_One.j1 k y0 y1 y2 y3) (avocetref02_One.j1 (k + 1) y0 y1 y2 y3))
  | 0 => ⟨fun _ _ _ _ _ r h => by simp [avocetref02_One.j0] at h, fun _ _ _ _ r h => by simp [avocetref02_One.j1] at h⟩
  | k + 1 => by
    obtain ⟨ih0, ih1⟩ := avocetref02_One.mono_l k
    refine ⟨?_, ?_⟩
    · intro y0 y1 y2 y3 y4
      unfold avocetref02_One.j0
      repeat' first
      | (with_reducible exact ih0 _ _ _ _ _)
      | (with_reducible exact ih1 _ _ _ _)
      | (with_reducible exact avocetref02_counted.mono _ _ _ _)
      | (with_reducible exact avocetref02_kind.mono _ _)
      | (with_reducible exact LeO.refl _)
      | (with_reducible exact LeO.none _)
      | (with_reducible refine LeO.ite ?_ ?_)
      | (with_reducible refine LeO.bind ?_ (fun _ => ?_))
      | exact ih0 _ _ _ _ _
      | exact ih1 _ _ _ _
      | exact avocetref02_counted.mono _ _ _ _
      | exact avocetref02_kind.mono _ _
      | exact LeO.none _
      | refine LeO.ite ?_ ?_
      | refine LeO.bind ?_ (fun _ => ?_)
    · intro y0 y1 y2 y3
      unfold avocetref02_One.j1
      repeat' first
      | (with_reducible exact ih0 _ _ _ _ _)
      | (with_reducible exact ih1 _ _ _ _)
      | (with_reducible exact avocetref02_counted.mono _ _ _ _)
      | (with_reducible exact avocetref02_kind.mono _ _)
      | (with_reducible exact LeO.refl _)
      | (with_reducible exact LeO.none _)
      | (with_reducible refine LeO.ite ?_ ?_)
      | (with_reducible refine LeO.bind ?_ (fun _ => ?_))
      | exact ih0 _ _ _ _ _
      | exact ih1 _ _ _ _
      | exact avocetref02_counted.mono _ _ _ _
      | exact avocetref02_kind.mono _ _
      | exact LeO.none _
      | refine LeO.ite ?_ ?_
      | refine LeO.bind ?_ (fun _ => ?_)
theorem avocetref02_One.mono : ∀ a0 a1 k, LeO (avocetref02_One.f k a0 a1) (avocetref02_One.f (k + 1) a0 a1) := by
  intro a0 a1 k
  obtain ⟨ih0, ih1⟩ := avocetref02_One.mono_l k
  unfold avocetref02_One.f
  repeat' first
      | (with_reducible exact ih0 _ _ _ _ _)
      | (with_reducible exact ih1 _ _ _ _)
      | (with_reducible exact avocetref02_counted.mono _ _ _ _)
      | (with_reducible exact avocetref02_kind.mono _ _)
      | (with_reducible exact LeO.refl _)
      | (with_reducible exact LeO.none _)
      | (with_reducible refine LeO.ite ?_ ?_)
      | (with_reducible refine LeO.bind ?_ (fun _ => ?_))
      | exact ih0 _ _ _ _ _
      | exact ih1 _ _ _ _
      | exact avocetref02_counted.mono _ _ _ _
      | exact avocetref02_kind.mono _ _
      | exact LeO.none _
      | refine LeO.ite ?_ ?_
      | refine LeO.bind ?_ (fun _ => ?_)
set_option maxHeartbeats 8000000 in
set_option maxRecDepth 100000 in
theorem avocetref02_One.calls (k : Nat) (a0 : Int) (a1 : Int) (r1 : Int) (r2 : Bool) (w : World) (h : avocetref02_One.f k a0 a1 = some (r1, r2)) :
    Calls Tryd.prog 18 #[.int .i64 a0, .int .u64 a1] w fun e w' => e = .returned (.tuple #[.int .u64 r1, .bool r2]) ∧ Drawn0 w w' := by
  have H : ((avocetref02_kind.f k a0).bind fun bt175 => (if a0 = 167 then (avocetref02_One.j0 k a0 a1 bt175.1 bt175.2 true) else (avocetref02_One.j0 k a0 a1 bt175.1 bt175.2 (a0 == 173)))) = some (r1, r2) := h
  clear h
  replace H := Option.bind_eq_some_iff.mp H
  obtain ⟨⟨t175, t176⟩, A30, H⟩ := H
  replace H : (if a0 = 167 then (avocetref02_One.j0 k a0 a1 t175 t176 true) else (avocetref02_One.j0 k a0 a1 t175 t176 (a0 == 173))) = some (r1, r2) := H
  have A3 := Aside0.mk A30
  clear A30
  have HC4 := Aside0.mk H
  clear H
  go_enter Tryd.func18, Tryd.ntmps18
  go_upto_region 2 with (first | ((with_reducible refine gate_callee (f := 37) rfl ?_); refine goesL_ (some 10) rfl rfl Tryd.func37 (by kernel_rfl) rfl #[.int .i64 a0] rfl (by (try simp only [List.map_toArray, List.map_cons, List.map_nil]); first | done | rfl | (simp only [List.length_drop, List.length_take]; rfl)) ?_; (with_reducible refine (avocetref02_kind.calls k a0 t175 t176 _ A3.out).mono ?_); rintro e w' ⟨rfl, ⟨nd, rfl⟩⟩; refine ⟨_, rfl, ?_⟩))
  (try simp only [Act.put, List.setIfInBounds_toArray, List.set_cons_zero, List.set_cons_succ])
  go_cut [13] (fun v13 wc => ∃ (kq : Nat) (x13_3 : Bool), v13 = .bool x13_3 ∧ Aside0 (avocetref02_One.j0 kq a0 a1 t175 t176 x13_3 = some (r1, r2)) ∧ Aside0 (kq ≤ k) ∧ Drawn0 w wc)
  case first =>
    have H := HC4.out
    clear HC4
    by_cases c5 : a0 = 167
    · rw [if_pos c5] at H
      have c5b0 : (a0 == 167) = true := beq_iff_eq.mpr c5
      have c5b1 : (a0 != 167) = false := bne_eq_false_iff_eq.mpr c5
      clear c5
      (first | rw [c5b0] | (simp only [i64_w, i32_w]; rw [c5b0]) | skip)
      have H' := Aside0.mk H
      clear H
      go_wp2
      go_meet
      case rel => exact ⟨_, (true), (by first | rfl | (simp; done) | (simp [*]; done)), H', ⟨by first | omega | exact Nat.le_refl _⟩, by repeat (first | exact Drawn0.refl _ | apply Drawn0.step)⟩
    · rw [if_neg c5] at H
      have c5b0 : (a0 == 167) = false := beq_eq_false_iff_ne.mpr c5
      have c5b1 : (a0 != 167) = true := bne_iff_ne.mpr c5
      (first | rw [c5b0] | (simp only [i64_w, i32_w]; rw [c5b0]) | skip)
      have H' := Aside0.mk H
      clear H
      go_wp2
      go_meet
      case rel => exact ⟨_, ((a0 == 173)), (by first | rfl | (simp; done) | (simp [*]; done)), H', ⟨by first | omega | exact Nat.le_refl _⟩, by repeat (first | exact Drawn0.refl _ | apply Drawn0.step)⟩
  case rest =>
    clear HC4
    try clear c1
    try clear p2
    try clear c3
    try clear c5
    try clear c5b0
    try clear c5b1
    obtain ⟨kq, x13_3, rfl, HA, HJ3, ⟨mc3, rfl⟩⟩ := hcut
    cases kq with
    | zero => exact absurd HA.out (by simp [avocetref02_One.j0])
    | succ kj3 =>
      have H := HA.out
      clear HA
      simp only [avocetref02_One.j0] at H
      by_cases c6 : x13_3 = true
      · subst c6
        have H1 : ((avocetref02_low.f a1 32).bind fun t177 => (some (t177, true))) = some (r1, r2) := by rw [if_pos rfl] at H; exact H
        clear H
        have H := H1
        clear H1
        replace H := Option.bind_eq_some_iff.mp H
        obtain ⟨t177, A70, H⟩ := H
        replace H : (some (t177, true)) = some (r1, r2) := H
        have A7 := Aside0.mk A70
        clear A70
        simp only [Option.some.injEq, Prod.mk.injEq] at H
        obtain ⟨rfl, rfl⟩ := H
        go_wp2_with (first | ((with_reducible refine gate_callee (f := 38) rfl ?_); refine goesL_ (some 21) rfl rfl Tryd.func38 (by kernel_rfl) rfl #[.int .u64 a1, .int .i64 32] rfl (by (try simp only [List.map_toArray, List.map_cons, List.map_nil]); first | done | rfl | (simp only [List.length_drop, List.length_take]; rfl)) ?_; (with_reducible refine (avocetref02_low.calls a1 32 t177 _ A7.out).mono ?_); rintro e w' ⟨rfl, ⟨nd, rfl⟩⟩; refine ⟨_, rfl, ?_⟩))
        go_ret2
        exact ⟨by first | rfl | (simp; done) | (simp [*]; done), by repeat (first | exact Drawn0.refl _ | apply Drawn0.step)⟩
      · replace c6 := Bool.eq_false_iff.mpr c6
        subst c6
        have H1 : (if a0 = 172 then ((avocetref02_low.f a1 32).bind fun t178 => ((avocetref02_signed.f t178 32).bind fun t179 => (some (IntKind.u64.wrap (t179), true)))) else (if t175 = 0 then ((avocetref02_low.f a1 t176).bind fun t180 => ((avocetref02_yes.f (t180 == 0)).bind fun t181 => (some (t181, true)))) else (if t175 ≥ 11 then (avocetref02_One.j1 kj3 a1 t175 t176 (decide (t175 ≤ 13))) else (avocetref02_One.j1 kj3 a1 t175 t176 false)))) = some (r1, r2) := by rw [if_neg (show ¬ (false = true) by decide)] at H; exact H
        clear H
        have H := H1
        clear H1
        by_cases c8 : a0 = 172
        · rw [if_pos c8] at H
          have c8b0 : (a0 == 172) = true := beq_iff_eq.mpr c8
          have c8b1 : (a0 != 172) = false := bne_eq_false_iff_eq.mpr c8
          clear c8
          replace H := Option.bind_eq_some_iff.mp H
          obtain ⟨t178, A90, H⟩ := H
          replace H : ((avocetref02_signed.f t178 32).bind fun t179 => (some (IntKind.u64.wrap (t179), true))) = some (r1, r2) := H
          have A9 := Aside0.mk A90
          clear A90
          replace H := Option.bind_eq_some_iff.mp H
          obtain ⟨t179, A100, H⟩ := H
          replace H : (some (IntKind.u64.wrap (t179), true)) = some (r1, r2) := H
          have A10 := Aside0.mk A100
          clear A100
          simp only [Option.some.injEq, Prod.mk.injEq] at H
          obtain ⟨rfl, rfl⟩ := H
          go_wp2_with (first | ((with_reducible refine gate_callee (f := 38) rfl ?_); refine goesL_ (some 26) rfl rfl Tryd.func38 (by kernel_rfl) rfl #[.int .u64 a1, .int .i64 32] rfl (by (try simp only [List.map_toArray, List.map_cons, List.map_nil]); first | done | rfl | (simp only [List.length_drop, List.length_take]; rfl)) ?_; (with_reducible refine (avocetref02_low.calls a1 32 t178 _ A9.out).mono ?_); rintro e w' ⟨rfl, ⟨nd, rfl⟩⟩; refine ⟨_, rfl, ?_⟩) | ((with_reducible refine gate_callee (f := 39) rfl ?_); refine goesL_ (some 27) rfl rfl Tryd.func39 (by kernel_rfl) rfl #[.int .u64 t178, .int .i64 32] rfl (by (try simp only [List.map_toArray, List.map_cons, List.map_nil]); first | done | rfl | (simp only [List.length_drop, List.length_take]; rfl)) ?_; (with_reducible refine (avocetref02_signed.calls t178 32 t179 _ A10.out).mono ?_); rintro e w' ⟨rfl, ⟨nd, rfl⟩⟩; refine ⟨_, rfl, ?_⟩))
          go_ret2
          exact ⟨by first | rfl | (simp; done) | (simp [*]; done), by repeat (first | exact Drawn0.refl _ | apply Drawn0.step)⟩
        · rw [if_neg c8] at H
          have c8b0 : (a0 == 172) = false := beq_eq_false_iff_ne.mpr c8
          have c8b1 : (a0 != 172) = true := bne_iff_ne.mpr c8
          by_cases c11 : t175 = 0
          · rw [if_pos c11] at H
            have c11b0 : (t175 == 0) = true := beq_iff_eq.mpr c11
            have c11b1 : (t175 != 0) = false := bne_eq_false_iff_eq.mpr c11
            clear c11
            replace H := Option.bind_eq_some_iff.mp H
            obtain ⟨t180, A120, H⟩ := H
            replace H : ((avocetref02_yes.f (t180 == 0)).bind fun t181 => (some (t181, true))) = some (r1, r2) := H
            have A12 := Aside0.mk A120
            clear A120
            replace H := Option.bind_eq_some_iff.mp H
            obtain ⟨t181, A130, H⟩ := H
            replace H : (some (t181, true)) = some (r1, r2) := H
            have A13 := Aside0.mk A130
            clear A130
            simp only [Option.some.injEq, Prod.mk.injEq] at H
            obtain ⟨rfl, rfl⟩ := H
            go_wp2_with (first | ((with_reducible refine gate_callee (f := 38) rfl ?_); refine goesL_ (some 34) rfl rfl Tryd.func38 (by kernel_rfl) rfl #[.int .u64 a1, .int .i64 t176] rfl (by (try simp only [List.map_toArray, List.map_cons, List.map_nil]); first | done | rfl | (simp only [List.length_drop, List.length_take]; rfl)) ?_; (with_reducible refine (avocetref02_low.calls a1 t176 t180 _ A12.out).mono ?_); rintro e w' ⟨rfl, ⟨nd, rfl⟩⟩; refine ⟨_, rfl, ?_⟩) | ((with_reducible refine gate_callee (f := 40) rfl ?_); refine goesL_ (some 36) rfl rfl Tryd.func40 (by kernel_rfl) rfl #[.bool (t180 == 0)] rfl (by (try simp only [List.map_toArray, List.map_cons, List.map_nil]); first | done | rfl | (simp only [List.length_drop, List.length_take]; rfl)) ?_; (with_reducible refine (avocetref02_yes.calls (t180 == 0) t181 _ A13.out).mono ?_); rintro e w' ⟨rfl, ⟨nd, rfl⟩⟩; refine ⟨_, rfl, ?_⟩))
            go_ret2
            exact ⟨by first | rfl | (simp; done) | (simp [*]; done), by repeat (first | exact Drawn0.refl _ | apply Drawn0.step)⟩
          · rw [if_neg c11] at H
            have c11b0 : (t175 == 0) = false := beq_eq_false_iff_ne.mpr c11
            have c11b1 : (t175 != 0) = true := bne_iff_ne.mpr c11
            have HC14 := Aside0.mk H
            clear H
            go_upto_region 8 with (fail)
            go_cut [37] (fun v37 wc => ∃ (kq : Nat) (x37_13 : Bool), v37 = .bool x37_13 ∧ Aside0 (avocetref02_One.j1 kq a1 t175 t176 x37_13 = some (r1, r2)) ∧ Aside0 (kq ≤ kj3) ∧ Drawn0 w wc)
            case first =>
              have H := HC14.out
              clear HC14
              by_cases c15 : t175 ≥ 11
              · rw [if_pos c15] at H
                have c15b0 : decide (11 ≤ t175) = true := decide_eq_true c15
                clear c15
                (first | rw [c15b0] | (simp only [i64_w, i32_w]; rw [c15b0]) | skip)
                have H' := Aside0.mk H
                clear H
                go_wp2
                go_meet
                case rel => exact ⟨_, (decide (t175 ≤ 13)), (by first | rfl | (simp; done) | (simp [*]; done)), H', ⟨by have := HJ3.out; first | omega | exact Nat.le_refl _⟩, by repeat (first | exact Drawn0.refl _ | apply Drawn0.step)⟩
              · rw [if_neg c15] at H
                have c15b0 : decide (11 ≤ t175) = false := decide_eq_false c15
                clear c15
                (first | rw [c15b0] | (simp only [i64_w, i32_w]; rw [c15b0]) | skip)
                have H' := Aside0.mk H
                clear H
                go_wp2
                go_meet
                case rel => exact ⟨_, (false), (by first | rfl | (simp; done) | (simp [*]; done)), H', ⟨by have := HJ3.out; first | omega | exact Nat.le_refl _⟩, by repeat (first | exact Drawn0.refl _ | apply Drawn0.step)⟩
            case rest =>
              clear HC14
              try clear c1
              try clear p2
              try clear c3
              try clear c4
              try clear c5
              try clear c5b0
              try clear c5b1
              try clear c6
              try clear c8
              try clear c8b0
              try clear c8b1
              try clear c11
              try clear c11b0
              try clear c11b1
              try clear c15
              try clear c15b0
              try clear p2
              obtain ⟨kq, x37_13, rfl, HA, HJ13, ⟨mc13, rfl⟩⟩ := hcut
              cases kq with
              | zero => exact absurd HA.out (by simp [avocetref02_One.j1])
              | succ kj13 =>
                have H := HA.out
                clear HA
                simp only [avocetref02_One.j1] at H
                by_cases c16 : x37_13 = true
                · subst c16
                  have H1 : ((avocetref02_low.f a1 t176).bind fun t182 => ((avocetref02_counted.f kj13 (wrap64 (t175 - 11)) t182 t176).bind fun t183 => (some (t183, true)))) = some (r1, r2) := by rw [if_pos rfl] at H; exact H
                  clear H
                  have H := H1
                  clear H1
                  replace H := Option.bind_eq_some_iff.mp H
                  obtain ⟨t182, A170, H⟩ := H
                  replace H : ((avocetref02_counted.f kj13 (wrap64 (t175 - 11)) t182 t176).bind fun t183 => (some (t183, true))) = some (r1, r2) := H
                  have A17 := Aside0.mk A170
                  clear A170
                  replace H := Option.bind_eq_some_iff.mp H
                  obtain ⟨t183, A180, H⟩ := H
                  replace H : (some (t183, true)) = some (r1, r2) := H
                  have A18 := Aside0.mk A180
                  clear A180
                  simp only [Option.some.injEq, Prod.mk.injEq] at H
                  obtain ⟨rfl, rfl⟩ := H
                  go_wp2_with (first | ((with_reducible refine gate_callee (f := 38) rfl ?_); refine goesL_ (some 48) rfl rfl Tryd.func38 (by kernel_rfl) rfl #[.int .u64 a1, .int .i64 t176] rfl (by (try simp only [List.map_toArray, List.map_cons, List.map_nil]); first | done | rfl | (simp only [List.length_drop, List.length_take]; rfl)) ?_; (with_reducible refine (avocetref02_low.calls a1 t176 t182 _ A17.out).mono ?_); rintro e w' ⟨rfl, ⟨nd, rfl⟩⟩; refine ⟨_, rfl, ?_⟩) | ((with_reducible refine gate_callee (f := 41) rfl ?_); refine goesL_ (some 50) rfl rfl Tryd.func41 (by kernel_rfl) rfl #[.int .i64 (wrap64 (t175 - 11)), .int .u64 t182, .int .i64 t176] rfl (by (try simp only [List.map_toArray, List.map_cons, List.map_nil]); first | done | rfl | (simp only [List.length_drop, List.length_take]; rfl)) ?_; (with_reducible refine (avocetref02_counted.calls kj13 (wrap64 (t175 - 11)) t182 t176 t183 _ A18.out).mono ?_); rintro e w' ⟨rfl, ⟨nd, rfl⟩⟩; refine ⟨_, rfl, ?_⟩))
                  go_ret2
                  exact ⟨by first | rfl | (simp; done) | (simp [*]; done), by repeat (first | exact Drawn0.refl _ | apply Drawn0.step)⟩
                · replace c16 := Bool.eq_false_iff.mpr c16
                  subst c16
                  have H1 : (some (0, false)) = some (r1, r2) := by rw [if_neg (show ¬ (false = true) by decide)] at H; exact H
                  clear H
                  have H := H1
                  clear H1
                  simp only [Option.some.injEq, Prod.mk.injEq] at H
                  obtain ⟨rfl, rfl⟩ := H
                  go_wp2
                  go_ret2
                  exact ⟨by first | rfl | (simp; done) | (simp [*]; done), by repeat (first | exact Drawn0.refl _ | apply Drawn0.step)⟩

/-! ### avocetref02_compare: function 42 -/
def avocetref02_compare.f (a0 : Int) (a1 : Int) (a2 : Int) (a3 : Int) : Option (Bool) := (avocetref02_signed.f a1 a3).bind fun t184 => ((avocetref02_signed.f a2 a3).bind fun t185 => (if a0 = 1 then (some (a1 == a2)) else (if a0 = 2 then (some (a1 != a2)) else (if a0 = 3 then (some (decide (t184 < t185))) else (if a0 = 4 then (some (decide (a1 < a2))) else (if a0 = 5 then (some (decide (t184 > t185))) else (if a0 = 6 then (some (decide (a1 > a2))) else (if a0 = 7 then (some (decide (t184 ≤ t185))) else (if a0 = 8 then (some (decide (a1 ≤ a2))) else (if a0 = 9 then (some (decide (t184 ≥ t185))) else (some (decide (a1 ≥ a2)))))))))))))
set_option maxHeartbeats 8000000 in
set_option maxRecDepth 100000 in
theorem avocetref02_compare.calls (a0 : Int) (a1 : Int) (a2 : Int) (a3 : Int) (r : Bool) (w : World) (h : avocetref02_compare.f a0 a1 a2 a3 = some r) :
    Calls Tryd.prog 42 #[.int .i64 a0, .int .u64 a1, .int .u64 a2, .int .i64 a3] w fun e w' => e = .returned (.bool r) ∧ Drawn0 w w' := by
  have H : ((avocetref02_signed.f a1 a3).bind fun t184 => ((avocetref02_signed.f a2 a3).bind fun t185 => (if a0 = 1 then (some (a1 == a2)) else (if a0 = 2 then (some (a1 != a2)) else (if a0 = 3 then (some (decide (t184 < t185))) else (if a0 = 4 then (some (decide (a1 < a2))) else (if a0 = 5 then (some (decide (t184 > t185))) else (if a0 = 6 then (some (decide (a1 > a2))) else (if a0 = 7 then (some (decide (t184 ≤ t185))) else (if a0 = 8 then (some (decide (a1 ≤ a2))) else (if a0 = 9 then (some (decide (t184 ≥ t185))) else (some (decide (a1 ≥ a2)))))))))))))) = some r := h
  clear h
  replace H := Option.bind_eq_some_iff.mp H
  obtain ⟨t184, A50, H⟩ := H
  replace H : ((avocetref02_signed.f a2 a3).bind fun t185 => (if a0 = 1 then (some (a1 == a2)) else (if a0 = 2 then (some (a1 != a2)) else (if a0 = 3 then (some (decide (t184 < t185))) else (if a0 = 4 then (some (decide (a1 < a2))) else (if a0 = 5 then (some (decide (t184 > t185))) else (if a0 = 6 then (some (decide (a1 > a2))) else (if a0 = 7 then (some (decide (t184 ≤ t185))) else (if a0 = 8 then (some (decide (a1 ≤ a2))) else (if a0 = 9 then (some (decide (t184 ≥ t185))) else (some (decide (a1 ≥ a2))))))))))))) = some r := H
  have A5 := Aside0.mk A50
  clear A50
  replace H := Option.bind_eq_some_iff.mp H
  obtain ⟨t185, A60, H⟩ := H
  replace H : (if a0 = 1 then (some (a1 == a2)) else (if a0 = 2 then (some (a1 != a2)) else (if a0 = 3 then (some (decide (t184 < t185))) else (if a0 = 4 then (some (decide (a1 < a2))) else (if a0 = 5 then (some (decide (t184 > t185))) else (if a0 = 6 then (some (decide (a1 > a2))) else (if a0 = 7 then (some (decide (t184 ≤ t185))) else (if a0 = 8 then (some (decide (a1 ≤ a2))) else (if a0 = 9 then (some (decide (t184 ≥ t185))) else (some (decide (a1 ≥ a2)))))))))))) = some r := H
  have A6 := Aside0.mk A60
  clear A60
  by_cases c7 : a0 = 1
  · rw [if_pos c7] at H
    have c7b0 : (a0 == 1) = true := beq_iff_eq.mpr c7
    have c7b1 : (a0 != 1) = false := bne_eq_false_iff_eq.mpr c7
    clear c7
    obtain rfl := Option.some.inj H
    go_enter Tryd.func42, Tryd.ntmps42
    go_wp2_with (first | ((with_reducible refine gate_callee (f := 39) rfl ?_); refine goesL_ (some 13) rfl rfl Tryd.func39 (by kernel_rfl) rfl #[.int .u64 a1, .int .i64 a3] rfl (by (try simp only [List.map_toArray, List.map_cons, List.map_nil]); first | done | rfl | (simp only [List.length_drop, List.length_take]; rfl)) ?_; (with_reducible refine (avocetref02_signed.calls a1 a3 t184 _ A5.out).mono ?_); rintro e w' ⟨rfl, ⟨nd, rfl⟩⟩; refine ⟨_, rfl, ?_⟩) | ((with_reducible refine gate_callee (f := 39) rfl ?_); refine goesL_ (some 16) rfl rfl Tryd.func39 (by kernel_rfl) rfl #[.int .u64 a2, .int .i64 a3] rfl (by (try simp only [List.map_toArray, List.map_cons, List.map_nil]); first | done | rfl | (simp only [List.length_drop, List.length_take]; rfl)) ?_; (with_reducible refine (avocetref02_signed.calls a2 a3 t185 _ A6.out).mono ?_); rintro e w' ⟨rfl, ⟨nd, rfl⟩⟩; refine ⟨_, rfl, ?_⟩))
    go_ret
    exact ⟨by first | rfl | (simp; done) | (simp [*]; done), by repeat (first | exact Drawn0.refl _ | apply Drawn0.step)⟩
  · rw [if_neg c7] at H
    have c7b0 : (a0 == 1) = false := beq_eq_false_iff_ne.mpr c7
    have c7b1 : (a0 != 1) = true := bne_iff_ne.mpr c7
    by_cases c8 : a0 = 2
    · rw [if_pos c8] at H
      have c8b0 : (a0 == 2) = true := beq_iff_eq.mpr c8
      have c8b1 : (a0 != 2) = false := bne_eq_false_iff_eq.mpr c8
      clear c8
      obtain rfl := Option.some.inj H
      go_enter Tryd.func42, Tryd.ntmps42
      go_wp2_with (first | ((with_reducible refine gate_callee (f := 39) rfl ?_); refine goesL_ (some 13) rfl rfl Tryd.func39 (by kernel_rfl) rfl #[.int .u64 a1, .int .i64 a3] rfl (by (try simp only [List.map_toArray, List.map_cons, List.map_nil]); first | done | rfl | (simp only [List.length_drop, List.length_take]; rfl)) ?_; (with_reducible refine (avocetref02_signed.calls a1 a3 t184 _ A5.out).mono ?_); rintro e w' ⟨rfl, ⟨nd, rfl⟩⟩; refine ⟨_, rfl, ?_⟩) | ((with_reducible refine gate_callee (f := 39) rfl ?_); refine goesL_ (some 16) rfl rfl Tryd.func39 (by kernel_rfl) rfl #[.int .u64 a2, .int .i64 a3] rfl (by (try simp only [List.map_toArray, List.map_cons, List.map_nil]); first | done | rfl | (simp only [List.length_drop, List.length_take]; rfl)) ?_; (with_reducible refine (avocetref02_signed.calls a2 a3 t185 _ A6.out).mono ?_); rintro e w' ⟨rfl, ⟨nd, rfl⟩⟩; refine ⟨_, rfl, ?_⟩))
      go_ret
      exact ⟨by first | rfl | (simp; done) | (simp [*]; done), by repeat (first | exact Drawn0.refl _ | apply Drawn0.step)⟩
    · rw [if_neg c8] at H
      have c8b0 : (a0 == 2) = false := beq_eq_false_iff_ne.mpr c8
      have c8b1 : (a0 != 2) = true := bne_iff_ne.mpr c8
      by_cases c9 : a0 = 3
      · rw [if_pos c9] at H
        have c9b0 : (a0 == 3) = true := beq_iff_eq.mpr c9
        have c9b1 : (a0 != 3) = false := bne_eq_false_iff_eq.mpr c9
        clear c9
        obtain rfl := Option.some.inj H
        go_enter Tryd.func42, Tryd.ntmps42
        go_wp2_with (first | ((with_reducible refine gate_callee (f := 39) rfl ?_); refine goesL_ (some 13) rfl rfl Tryd.func39 (by kernel_rfl) rfl #[.int .u64 a1, .int .i64 a3] rfl (by (try simp only [List.map_toArray, List.map_cons, List.map_nil]); first | done | rfl | (simp only [List.length_drop, List.length_take]; rfl)) ?_; (with_reducible refine (avocetref02_signed.calls a1 a3 t184 _ A5.out).mono ?_); rintro e w' ⟨rfl, ⟨nd, rfl⟩⟩; refine ⟨_, rfl, ?_⟩) | ((with_reducible refine gate_callee (f := 39) rfl ?_); refine goesL_ (some 16) rfl rfl Tryd.func39 (by kernel_rfl) rfl #[.int .u64 a2, .int .i64 a3] rfl (by (try simp only [List.map_toArray, List.map_cons, List.map_nil]); first | done | rfl | (simp only [List.length_drop, List.length_take]; rfl)) ?_; (with_reducible refine (avocetref02_signed.calls a2 a3 t185 _ A6.out).mono ?_); rintro e w' ⟨rfl, ⟨nd, rfl⟩⟩; refine ⟨_, rfl, ?_⟩))
        go_ret
        exact ⟨by first | rfl | (simp; done) | (simp [*]; done), by repeat (first | exact Drawn0.refl _ | apply Drawn0.step)⟩
      · rw [if_neg c9] at H
        have c9b0 : (a0 == 3) = false := beq_eq_false_iff_ne.mpr c9
        have c9b1 : (a0 != 3) = true := bne_iff_ne.mpr c9
        by_cases c10 : a0 = 4
        · rw [if_pos c10] at H
          have c10b0 : (a0 == 4) = true := beq_iff_eq.mpr c10
          have c10b1 : (a0 != 4) = false := bne_eq_false_iff_eq.mpr c10
          clear c10
          obtain rfl := Option.some.inj H
          go_enter Tryd.func42, Tryd.ntmps42
          go_wp2_with (first | ((with_reducible refine gate_callee (f := 39) rfl ?_); refine goesL_ (some 13) rfl rfl Tryd.func39 (by kernel_rfl) rfl #[.int .u64 a1, .int .i64 a3] rfl (by (try simp only [List.map_toArray, List.map_cons, List.map_nil]); first | done | rfl | (simp only [List.length_drop, List.length_take]; rfl)) ?_; (with_reducible refine (avocetref02_signed.calls a1 a3 t184 _ A5.out).mono ?_); rintro e w' ⟨rfl, ⟨nd, rfl⟩⟩; refine ⟨_, rfl, ?_⟩) | ((with_reducible refine gate_callee (f := 39) rfl ?_); refine goesL_ (some 16) rfl rfl Tryd.func39 (by kernel_rfl) rfl #[.int .u64 a2, .int .i64 a3] rfl (by (try simp only [List.map_toArray, List.map_cons, List.map_nil]); first | done | rfl | (simp only [List.length_drop, List.length_take]; rfl)) ?_; (with_reducible refine (avocetref02_signed.calls a2 a3 t185 _ A6.out).mono ?_); rintro e w' ⟨rfl, ⟨nd, rfl⟩⟩; refine ⟨_, rfl, ?_⟩))
          go_ret
          exact ⟨by first | rfl | (simp; done) | (simp [*]; done), by repeat (first | exact Drawn0.refl _ | apply Drawn0.step)⟩
        · rw [if_neg c10] at H
          have c10b0 : (a0 == 4) = false := beq_eq_false_iff_ne.mpr c10
          have c10b1 : (a0 != 4) = true := bne_iff_ne.mpr c10
          by_cases c11 : a0 = 5
          · rw [if_pos c11] at H
            have c11b0 : (a0 == 5) = true := beq_iff_eq.mpr c11
            have c11b1 : (a0 != 5) = false := bne_eq_false_iff_eq.mpr c11
            clear c11
            obtain rfl := Option.some.inj H
            go_enter Tryd.func42, Tryd.ntmps42
            go_wp2_with (first | ((with_reducible refine gate_callee (f := 39) rfl ?_); refine goesL_ (some 13) rfl rfl Tryd.func39 (by kernel_rfl) rfl #[.int .u64 a1, .int .i64 a3] rfl (by (try simp only [List.map_toArray, List.map_cons, List.map_nil]); first | done | rfl | (simp only [List.length_drop, List.length_take]; rfl)) ?_; (with_reducible refine (avocetref02_signed.calls a1 a3 t184 _ A5.out).mono ?_); rintro e w' ⟨rfl, ⟨nd, rfl⟩⟩; refine ⟨_, rfl, ?_⟩) | ((with_reducible refine gate_callee (f := 39) rfl ?_); refine goesL_ (some 16) rfl rfl Tryd.func39 (by kernel_rfl) rfl #[.int .u64 a2, .int .i64 a3] rfl (by (try simp only [List.map_toArray, List.map_cons, List.map_nil]); first | done | rfl | (simp only [List.length_drop, List.length_take]; rfl)) ?_; (with_reducible refine (avocetref02_signed.calls a2 a3 t185 _ A6.out).mono ?_); rintro e w' ⟨rfl, ⟨nd, rfl⟩⟩; refine ⟨_, rfl, ?_⟩))
            go_ret
            exact ⟨by first | rfl | (simp; done) | (simp [*]; done), by repeat (first | exact Drawn0.refl _ | apply Drawn0.step)⟩
          · rw [if_neg c11] at H
            have c11b0 : (a0 == 5) = false := beq_eq_false_iff_ne.mpr c11
            have c11b1 : (a0 != 5) = true := bne_iff_ne.mpr c11
            by_cases c12 : a0 = 6
            · rw [if_pos c12] at H
              have c12b0 : (a0 == 6) = true := beq_iff_eq.mpr c12
              have c12b1 : (a0 != 6) = false := bne_eq_false_iff_eq.mpr c12
              clear c12
              obtain rfl := Option.some.inj H
              go_enter Tryd.func42, Tryd.ntmps42
              go_wp2_with (first | ((with_reducible refine gate_callee (f := 39) rfl ?_); refine goesL_ (some 13) rfl rfl Tryd.func39 (by kernel_rfl) rfl #[.int .u64 a1, .int .i64 a3] rfl (by (try simp only [List.map_toArray, List.map_cons, List.map_nil]); first | done | rfl | (simp only [List.length_drop, List.length_take]; rfl)) ?_; (with_reducible refine (avocetref02_signed.calls a1 a3 t184 _ A5.out).mono ?_); rintro e w' ⟨rfl, ⟨nd, rfl⟩⟩; refine ⟨_, rfl, ?_⟩) | ((with_reducible refine gate_callee (f := 39) rfl ?_); refine goesL_ (some 16) rfl rfl Tryd.func39 (by kernel_rfl) rfl #[.int .u64 a2, .int .i64 a3] rfl (by (try simp only [List.map_toArray, List.map_cons, List.map_nil]); first | done | rfl | (simp only [List.length_drop, List.length_take]; rfl)) ?_; (with_reducible refine (avocetref02_signed.calls a2 a3 t185 _ A6.out).mono ?_); rintro e w' ⟨rfl, ⟨nd, rfl⟩⟩; refine ⟨_, rfl, ?_⟩))
              go_ret
              exact ⟨by first | rfl | (simp; done) | (simp [*]; done), by repeat (first | exact Drawn0.refl _ | apply Drawn0.step)⟩
            · rw [if_neg c12] at H
              have c12b0 : (a0 == 6) = false := beq_eq_false_iff_ne.mpr c12
              have c12b1 : (a0 != 6) = true := bne_iff_ne.mpr c12
              by_cases c13 : a0 = 7
              · rw [if_pos c13] at H
                have c13b0 : (a0 == 7) = true := beq_iff_eq.mpr c13
                have c13b1 : (a0 != 7) = false := bne_eq_false_iff_eq.mpr c13
                clear c13
                obtain rfl := Option.some.inj H
                go_enter Tryd.func42, Tryd.ntmps42
                go_wp2_with (first | ((with_reducible refine gate_callee (f := 39) rfl ?_); refine goesL_ (some 13) rfl rfl Tryd.func39 (by kernel_rfl) rfl #[.int .u64 a1, .int .i64 a3] rfl (by (try simp only [List.map_toArray, List.map_cons, List.map_nil]); first | done | rfl | (simp only [List.length_drop, List.length_take]; rfl)) ?_; (with_reducible refine (avocetref02_signed.calls a1 a3 t184 _ A5.out).mono ?_); rintro e w' ⟨rfl, ⟨nd, rfl⟩⟩; refine ⟨_, rfl, ?_⟩) | ((with_reducible refine gate_callee (f := 39) rfl ?_); refine goesL_ (some 16) rfl rfl Tryd.func39 (by kernel_rfl) rfl #[.int .u64 a2, .int .i64 a3] rfl (by (try simp only [List.map_toArray, List.map_cons, List.map_nil]); first | done | rfl | (simp only [List.length_drop, List.length_take]; rfl)) ?_; (with_reducible refine (avocetref02_signed.calls a2 a3 t185 _ A6.out).mono ?_); rintro e w' ⟨rfl, ⟨nd, rfl⟩⟩; refine ⟨_, rfl, ?_⟩))
                go_ret
                exact ⟨by first | rfl | (simp; done) | (simp [*]; done), by repeat (first | exact Drawn0.refl _ | apply Drawn0.step)⟩
              · rw [if_neg c13] at H
                have c13b0 : (a0 == 7) = false := beq_eq_false_iff_ne.mpr c13
                have c13b1 : (a0 != 7) = true := bne_iff_ne.mpr c13
                by_cases c14 : a0 = 8
                · rw [if_pos c14] at H
                  have c14b0 : (a0 == 8) = true := beq_iff_eq.mpr c14
                  have c14b1 : (a0 != 8) = false := bne_eq_false_iff_eq.mpr c14
                  clear c14
                  obtain rfl := Option.some.inj H
                  go_enter Tryd.func42, Tryd.ntmps42
                  go_wp2_with (first | ((with_reducible refine gate_callee (f := 39) rfl ?_); refine goesL_ (some 13) rfl rfl Tryd.func39 (by kernel_rfl) rfl #[.int .u64 a1, .int .i64 a3] rfl (by (try simp only [List.map_toArray, List.map_cons, List.map_nil]); first | done | rfl | (simp only [List.length_drop, List.length_take]; rfl)) ?_; (with_reducible refine (avocetref02_signed.calls a1 a3 t184 _ A5.out).mono ?_); rintro e w' ⟨rfl, ⟨nd, rfl⟩⟩; refine ⟨_, rfl, ?_⟩) | ((with_reducible refine gate_callee (f := 39) rfl ?_); refine goesL_ (some 16) rfl rfl Tryd.func39 (by kernel_rfl) rfl #[.int .u64 a2, .int .i64 a3] rfl (by (try simp only [List.map_toArray, List.map_cons, List.map_nil]); first | done | rfl | (simp only [List.length_drop, List.length_take]; rfl)) ?_; (with_reducible refine (avocetref02_signed.calls a2 a3 t185 _ A6.out).mono ?_); rintro e w' ⟨rfl, ⟨nd, rfl⟩⟩; refine ⟨_, rfl, ?_⟩))
                  go_ret
                  exact ⟨by first | rfl | (simp; done) | (simp [*]; done), by repeat (first | exact Drawn0.refl _ | apply Drawn0.step)⟩
                · rw [if_neg c14] at H
                  have c14b0 : (a0 == 8) = false := beq_eq_false_iff_ne.mpr c14
                  have c14b1 : (a0 != 8) = true := bne_iff_ne.mpr c14
                  by_cases c15 : a0 = 9
                  · rw [if_pos c15] at H
                    have c15b0 : (a0 == 9) = true := beq_iff_eq.mpr c15
                    have c15b1 : (a0 != 9) = false := bne_eq_false_iff_eq.mpr c15
                    clear c15
                    obtain rfl := Option.some.inj H
                    go_enter Tryd.func42, Tryd.ntmps42
                    go_wp2_with (first | ((with_reducible refine gate_callee (f := 39) rfl ?_); refine goesL_ (some 13) rfl rfl Tryd.func39 (by kernel_rfl) rfl #[.int .u64 a1, .int .i64 a3] rfl (by (try simp only [List.map_toArray, List.map_cons, List.map_nil]); first | done | rfl | (simp only [List.length_drop, List.length_take]; rfl)) ?_; (with_reducible refine (avocetref02_signed.calls a1 a3 t184 _ A5.out).mono ?_); rintro e w' ⟨rfl, ⟨nd, rfl⟩⟩; refine ⟨_, rfl, ?_⟩) | ((with_reducible refine gate_callee (f := 39) rfl ?_); refine goesL_ (some 16) rfl rfl Tryd.func39 (by kernel_rfl) rfl #[.int .u64 a2, .int .i64 a3] rfl (by (try simp only [List.map_toArray, List.map_cons, List.map_nil]); first | done | rfl | (simp only [List.length_drop, List.length_take]; rfl)) ?_; (with_reducible refine (avocetref02_signed.calls a2 a3 t185 _ A6.out).mono ?_); rintro e w' ⟨rfl, ⟨nd, rfl⟩⟩; refine ⟨_, rfl, ?_⟩))
                    go_ret
                    exact ⟨by first | rfl | (simp; done) | (simp [*]; done), by repeat (first | exact Drawn0.refl _ | apply Drawn0.step)⟩
                  · rw [if_neg c15] at H
                    have c15b0 : (a0 == 9) = false := beq_eq_false_iff_ne.mpr c15
                    have c15b1 : (a0 != 9) = true := bne_iff_ne.mpr c15
                    obtain rfl := Option.some.inj H
                    go_enter Tryd.func42, Tryd.ntmps42
                    go_wp2_with (first | ((with_reducible refine gate_callee (f := 39) rfl ?_); refine goesL_ (some 13) rfl rfl Tryd.func39 (by kernel_rfl) rfl #[.int .u64 a1, .int .i64 a3] rfl (by (try simp only [List.map_toArray, List.map_cons, List.map_nil]); first | done | rfl | (simp only [List.length_drop, List.length_take]; rfl)) ?_; (with_reducible refine (avocetref02_signed.calls a1 a3 t184 _ A5.out).mono ?_); rintro e w' ⟨rfl, ⟨nd, rfl⟩⟩; refine ⟨_, rfl, ?_⟩) | ((with_reducible refine gate_callee (f := 39) rfl ?_); refine goesL_ (some 16) rfl rfl Tryd.func39 (by kernel_rfl) rfl #[.int .u64 a2, .int .i64 a3] rfl (by (try simp only [List.map_toArray, List.map_cons, List.map_nil]); first | done | rfl | (simp only [List.length_drop, List.length_take]; rfl)) ?_; (with_reducible refine (avocetref02_signed.calls a2 a3 t185 _ A6.out).mono ?_); rintro e w' ⟨rfl, ⟨nd, rfl⟩⟩; refine ⟨_, rfl, ?_⟩))
                    go_ret
                    exact ⟨by first | rfl | (simp; done) | (simp [*]; done), by repeat (first | exact Drawn0.refl _ | apply Drawn0.step)⟩

/-! ### avocetref02_divided: function 43 -/
def avocetref02_divided.f (a0 : Int) (a1 : Int) (a2 : Int) (a3 : Int) : Option (Int × Int) := if a2 = 0 then (some (0, 2)) else (if a0 = 1 then (some (IntKind.u64.wrap (Int.tdiv a1 a2), 0)) else (if a0 = 3 then (some (Int.tmod a1 a2, 0)) else ((avocetref02_signed.f a1 a3).bind fun t186 => ((avocetref02_signed.f a2 a3).bind fun t187 => (if t187 = (-1) then (if a0 = 2 then (some (0, 0)) else (if 0 ≤ (IntKind.u64.wrap (wrap64 (a3 - 1))) then (if a1 = (shl .u64 1 (IntKind.u64.wrap (wrap64 (a3 - 1)))) then (some (0, 3)) else ((avocetref02_low.f (IntKind.u64.wrap (wrap64 (-t186))) a3).bind fun t188 => (some (t188, 0)))) else (none))) else (if a0 = 0 then (if t187 = 0 then (none) else ((avocetref02_low.f (IntKind.u64.wrap (wrap64 (Int.tdiv t186 t187))) a3).bind fun t189 => (some (t189, 0)))) else (if t187 = 0 then (none) else ((avocetref02_low.f (IntKind.u64.wrap (Int.tmod t186 t187)) a3).bind fun t190 => (some (t190, 0))))))))))
set_option maxHeartbeats 8000000 in
set_option maxRecDepth 100000 in
theorem avocetref02_divided.calls (a0 : Int) (a1 : Int) (a2 : Int) (a3 : Int) (r1 : Int) (r2 : Int) (w : World) (h : avocetref02_divided.f a0 a1 a2 a3 = some (r1, r2)) :
    Calls Tryd.prog 43 #[.int .i64 a0, .int .u64 a1, .int .u64 a2, .int .i64 a3] w fun e w' => e = .returned (.tuple #[.int .u64 r1, .int .i64 r2]) ∧ Drawn0 w w' := by
  have H : (if a2 = 0 then (some (0, 2)) else (if a0 = 1 then (some (IntKind.u64.wrap (Int.tdiv a1 a2), 0)) else (if a0 = 3 then (some (Int.tmod a1 a2, 0)) else ((avocetref02_signed.f a1 a3).bind fun t186 => ((avocetref02_signed.f a2 a3).bind fun t187 => (if t187 = (-1) then (if a0 = 2 then (some (0, 0)) else (if 0 ≤ (IntKind.u64.wrap (wrap64 (a3 - 1))) then (if a1 = (shl .u64 1 (IntKind.u64.wrap (wrap64 (a3 - 1)))) then (some (0, 3)) else ((avocetref02_low.f (IntKind.u64.wrap (wrap64 (-t186))) a3).bind fun t188 => (some (t188, 0)))) else (none))) else (if a0 = 0 then (if t187 = 0 then (none) else ((avocetref02_low.f (IntKind.u64.wrap (wrap64 (Int.tdiv t186 t187))) a3).bind fun t189 => (some (t189, 0)))) else (if t187 = 0 then (none) else ((avocetref02_low.f (IntKind.u64.wrap (Int.tmod t186 t187)) a3).bind fun t190 => (some (t190, 0))))))))))) = some (r1, r2) := h
  clear h
  by_cases c5 : a2 = 0
  · rw [if_pos c5] at H
    have c5b0 : (a2 == 0) = true := beq_iff_eq.mpr c5
    have c5b1 : (a2 != 0) = false := bne_eq_false_iff_eq.mpr c5
    clear c5
    simp only [Option.some.injEq, Prod.mk.injEq] at H
    obtain ⟨rfl, rfl⟩ := H
    go_enter Tryd.func43, Tryd.ntmps43
    go_wp2
    go_ret2
    exact ⟨by first | rfl | (simp; done) | (simp [*]; done), by repeat (first | exact Drawn0.refl _ | apply Drawn0.step)⟩
  · rw [if_neg c5] at H
    have c5b0 : (a2 == 0) = false := beq_eq_false_iff_ne.mpr c5
    have c5b1 : (a2 != 0) = true := bne_iff_ne.mpr c5
    by_cases c6 : a0 = 1
    · rw [if_pos c6] at H
      have c6b0 : (a0 == 1) = true := beq_iff_eq.mpr c6
      have c6b1 : (a0 != 1) = false := bne_eq_false_iff_eq.mpr c6
      clear c6
      simp only [Option.some.injEq, Prod.mk.injEq] at H
      obtain ⟨rfl, rfl⟩ := H
      go_enter Tryd.func43, Tryd.ntmps43
      go_wp2
      go_ret2
      exact ⟨by first | rfl | (simp; done) | (simp [*]; done), by repeat (first | exact Drawn0.refl _ | apply Drawn0.step)⟩
    · rw [if_neg c6] at H
      have c6b0 : (a0 == 1) = false := beq_eq_false_iff_ne.mpr c6
      have c6b1 : (a0 != 1) = true := bne_iff_ne.mpr c6
      by_cases c7 : a0 = 3
      · rw [if_pos c7] at H
        have c7b0 : (a0 == 3) = true := beq_iff_eq.mpr c7
        have c7b1 : (a0 != 3) = false := bne_eq_false_iff_eq.mpr c7
        clear c7
        simp only [Option.some.injEq, Prod.mk.injEq] at H
        obtain ⟨rfl, rfl⟩ := H
        go_enter Tryd.func43, Tryd.ntmps43
        go_wp2
        go_ret2
        exact ⟨by first | rfl | (simp; done) | (simp [*]; done), by repeat (first | exact Drawn0.refl _ | apply Drawn0.step)⟩
      · rw [if_neg c7] at H
        have c7b0 : (a0 == 3) = false := beq_eq_false_iff_ne.mpr c7
        have c7b1 : (a0 != 3) = true := bne_iff_ne.mpr c7
        replace H := Option.bind_eq_some_iff.mp H
        obtain ⟨t186, A80, H⟩ := H
        replace H : ((avocetref02_signed.f a2 a3).bind fun t187 => (if t187 = (-1) then (if a0 = 2 then (some (0, 0)) else (if 0 ≤ (IntKind.u64.wrap (wrap64 (a3 - 1))) then (if a1 = (shl .u64 1 (IntKind.u64.wrap (wrap64 (a3 - 1)))) then (some (0, 3)) else ((avocetref02_low.f (IntKind.u64.wrap (wrap64 (-t186))) a3).bind fun t188 => (some (t188, 0)))) else (none))) else (if a0 = 0 then (if t187 = 0 then (none) else ((avocetref02_low.f (IntKind.u64.wrap (wrap64 (Int.tdiv t186 t187))) a3).bind fun t189 => (some (t189, 0)))) else (if t187 = 0 then (none) else ((avocetref02_low.f (IntKind.u64.wrap (Int.tmod t186 t187)) a3).bind fun t190 => (some (t190, 0))))))) = some (r1, r2) := H
        have A8 := Aside0.mk A80
        clear A80
        replace H := Option.bind_eq_some_iff.mp H
        obtain ⟨t187, A90, H⟩ := H
        replace H : (if t187 = (-1) then (if a0 = 2 then (some (0, 0)) else (if 0 ≤ (IntKind.u64.wrap (wrap64 (a3 - 1))) then (if a1 = (shl .u64 1 (IntKind.u64.wrap (wrap64 (a3 - 1)))) then (some (0, 3)) else ((avocetref02_low.f (IntKind.u64.wrap (wrap64 (-t186))) a3).bind fun t188 => (some (t188, 0)))) else (none))) else (if a0 = 0 then (if t187 = 0 then (none) else ((avocetref02_low.f (IntKind.u64.wrap (wrap64 (Int.tdiv t186 t187))) a3).bind fun t189 => (some (t189, 0)))) else (if t187 = 0 then (none) else ((avocetref02_low.f (IntKind.u64.wrap (Int.tmod t186 t187)) a3).bind fun t190 => (some (t190, 0)))))) = some (r1, r2) := H
        have A9 := Aside0.mk A90
        clear A90
        by_cases c10 : t187 = (-1)
        · rw [if_pos c10] at H
          have c10b0 : (t187 == (-1)) = true := beq_iff_eq.mpr c10
          have c10b1 : (t187 != (-1)) = false := bne_eq_false_iff_eq.mpr c10
          clear c10
          by_cases c11 : a0 = 2
          · rw [if_pos c11] at H
            have c11b0 : (a0 == 2) = true := beq_iff_eq.mpr c11
            have c11b1 : (a0 != 2) = false := bne_eq_false_iff_eq.mpr c11
            clear c11
            simp only [Option.some.injEq, Prod.mk.injEq] at H
            obtain ⟨rfl, rfl⟩ := H
            go_enter Tryd.func43, Tryd.ntmps43
            go_wp2_with (first | ((with_reducible refine gate_callee (f := 39) rfl ?_); refine goesL_ (some 26) rfl rfl Tryd.func39 (by kernel_rfl) rfl #[.int .u64 a1, .int .i64 a3] rfl (by (try simp only [List.map_toArray, List.map_cons, List.map_nil]); first | done | rfl | (simp only [List.length_drop, List.length_take]; rfl)) ?_; (with_reducible refine (avocetref02_signed.calls a1 a3 t186 _ A8.out).mono ?_); rintro e w' ⟨rfl, ⟨nd, rfl⟩⟩; refine ⟨_, rfl, ?_⟩) | ((with_reducible refine gate_callee (f := 39) rfl ?_); refine goesL_ (some 29) rfl rfl Tryd.func39 (by kernel_rfl) rfl #[.int .u64 a2, .int .i64 a3] rfl (by (try simp only [List.map_toArray, List.map_cons, List.map_nil]); first | done | rfl | (simp only [List.length_drop, List.length_take]; rfl)) ?_; (with_reducible refine (avocetref02_signed.calls a2 a3 t187 _ A9.out).mono ?_); rintro e w' ⟨rfl, ⟨nd, rfl⟩⟩; refine ⟨_, rfl, ?_⟩))
            go_ret2
            exact ⟨by first | rfl | (simp; done) | (simp [*]; done), by repeat (first | exact Drawn0.refl _ | apply Drawn0.step)⟩
          · rw [if_neg c11] at H
            have c11b0 : (a0 == 2) = false := beq_eq_false_iff_ne.mpr c11
            have c11b1 : (a0 != 2) = true := bne_iff_ne.mpr c11
            obtain ⟨ji12, hji12⟩ : ∃ j_ : Int, (IntKind.u64.wrap (wrap64 (a3 - 1))) = j_ := ⟨_, rfl⟩
            replace H : (if 0 ≤ (ji12) then (if a1 = (shl .u64 1 (ji12)) then (some (0, 3)) else ((avocetref02_low.f (IntKind.u64.wrap (wrap64 (-t186))) a3).bind fun t188 => (some (t188, 0)))) else (none)) = some (r1, r2) := by first | (rw [hji12] at H; exact H) | (simp only [hji12] at H ⊢; exact H)
            (try rw [hji12] at A8)
            (try rw [hji12] at A9)
            by_cases c13 : 0 ≤ (ji12)
            · rw [if_pos c13] at H
              have c13b0 := eq_true c13
              have c13b1 : decide (0 ≤ (ji12)) = true := decide_eq_true c13
              clear c13
              obtain ⟨ji14, hji14⟩ : ∃ j_ : Int, (shl .u64 1 (ji12)) = j_ := ⟨_, rfl⟩
              replace H : (if a1 = (ji14) then (some (0, 3)) else ((avocetref02_low.f (IntKind.u64.wrap (wrap64 (-t186))) a3).bind fun t188 => (some (t188, 0)))) = some (r1, r2) := by first | (rw [hji14] at H; exact H) | (simp only [hji14] at H ⊢; exact H)
              (try rw [hji14] at A8)
              (try rw [hji14] at A9)
              have hji14_ : (IntKind.u64.wrap (1 * 2 ^ min (ji12).toNat 64)) = ji14 := hji14
              have hji14z : (ji12) ≤ 64 → (IntKind.u64.wrap (1 * 2 ^ (ji12).toNat)) = ji14 := shl_small hji14
              have hji14u : (IntKind.u64.wrap (2 ^ min (ji12).toNat 64)) = ji14 := by have h_ := hji14_; rw [Int.one_mul] at h_; exact h_
              have hji14v : (ji12) ≤ 64 → (IntKind.u64.wrap (2 ^ (ji12).toNat)) = ji14 := fun hle_ => by have h_ := hji14z hle_; rw [Int.one_mul] at h_; exact h_
              by_cases c15 : a1 = (ji14)
              · rw [if_pos c15] at H
                have c15b0 : (a1 == (ji14)) = true := beq_iff_eq.mpr c15
                have c15b1 : (a1 != (ji14)) = false := bne_eq_false_iff_eq.mpr c15
                clear c15
                simp only [Option.some.injEq, Prod.mk.injEq] at H
                obtain ⟨rfl, rfl⟩ := H
                go_enter Tryd.func43, Tryd.ntmps43
                go_wp2_with (first | ((with_reducible refine gate_callee (f := 39) rfl ?_); refine goesL_ (some 26) rfl rfl Tryd.func39 (by kernel_rfl) rfl #[.int .u64 a1, .int .i64 a3] rfl (by (try simp only [List.map_toArray, List.map_cons, List.map_nil]); first | done | rfl | (simp only [List.length_drop, List.length_take]; rfl)) ?_; (with_reducible refine (avocetref02_signed.calls a1 a3 t186 _ A8.out).mono ?_); rintro e w' ⟨rfl, ⟨nd, rfl⟩⟩; refine ⟨_, rfl, ?_⟩) | ((with_reducible refine gate_callee (f := 39) rfl ?_); refine goesL_ (some 29) rfl rfl Tryd.func39 (by kernel_rfl) rfl #[.int .u64 a2, .int .i64 a3] rfl (by (try simp only [List.map_toArray, List.map_cons, List.map_nil]); first | done | rfl | (simp only [List.length_drop, List.length_take]; rfl)) ?_; (with_reducible refine (avocetref02_signed.calls a2 a3 t187 _ A9.out).mono ?_); rintro e w' ⟨rfl, ⟨nd, rfl⟩⟩; refine ⟨_, rfl, ?_⟩))
                go_ret2
                exact ⟨by first | rfl | (simp; done) | (simp only [← hji12, ← hji14] <;> (first | rfl | simp)) | (simp [*]; done), by repeat (first | exact Drawn0.refl _ | apply Drawn0.step)⟩
              · rw [if_neg c15] at H
                have c15b0 : (a1 == (ji14)) = false := beq_eq_false_iff_ne.mpr c15
                have c15b1 : (a1 != (ji14)) = true := bne_iff_ne.mpr c15
                replace H := Option.bind_eq_some_iff.mp H
                obtain ⟨t188, A160, H⟩ := H
                replace H : (some (t188, 0)) = some (r1, r2) := H
                have A16 := Aside0.mk A160
                clear A160
                simp only [Option.some.injEq, Prod.mk.injEq] at H
                obtain ⟨rfl, rfl⟩ := H
                go_enter Tryd.func43, Tryd.ntmps43
                go_wp2_with (first | ((with_reducible refine gate_callee (f := 39) rfl ?_); refine goesL_ (some 26) rfl rfl Tryd.func39 (by kernel_rfl) rfl #[.int .u64 a1, .int .i64 a3] rfl (by (try simp only [List.map_toArray, List.map_cons, List.map_nil]); first | done | rfl | (simp only [List.length_drop, List.length_take]; rfl)) ?_; (with_reducible refine (avocetref02_signed.calls a1 a3 t186 _ A8.out).mono ?_); rintro e w' ⟨rfl, ⟨nd, rfl⟩⟩; refine ⟨_, rfl, ?_⟩) | ((with_reducible refine gate_callee (f := 39) rfl ?_); refine goesL_ (some 29) rfl rfl Tryd.func39 (by kernel_rfl) rfl #[.int .u64 a2, .int .i64 a3] rfl (by (try simp only [List.map_toArray, List.map_cons, List.map_nil]); first | done | rfl | (simp only [List.length_drop, List.length_take]; rfl)) ?_; (with_reducible refine (avocetref02_signed.calls a2 a3 t187 _ A9.out).mono ?_); rintro e w' ⟨rfl, ⟨nd, rfl⟩⟩; refine ⟨_, rfl, ?_⟩) | ((with_reducible refine gate_callee (f := 38) rfl ?_); refine goesL_ (some 44) rfl rfl Tryd.func38 (by kernel_rfl) rfl #[.int .u64 (IntKind.u64.wrap (wrap64 (-t186))), .int .i64 a3] rfl (by (try simp only [List.map_toArray, List.map_cons, List.map_nil]); first | done | rfl | (simp only [List.length_drop, List.length_take]; rfl)) ?_; (with_reducible refine (avocetref02_low.calls (IntKind.u64.wrap (wrap64 (-t186))) a3 t188 _ A16.out).mono ?_); rintro e w' ⟨rfl, ⟨nd, rfl⟩⟩; refine ⟨_, rfl, ?_⟩))
                go_ret2
                exact ⟨by first | rfl | (simp; done) | (simp only [← hji12, ← hji14] <;> (first | rfl | simp)) | (simp [*]; done), by repeat (first | exact Drawn0.refl _ | apply Drawn0.step)⟩
            · rw [if_neg c13] at H
              exact absurd H (by simp)
        · rw [if_neg c10] at H
          have c10b0 : (t187 == (-1)) = false := beq_eq_false_iff_ne.mpr c10
          have c10b1 : (t187 != (-1)) = true := bne_iff_ne.mpr c10
          by_cases c17 : a0 = 0
          · rw [if_pos c17] at H
            have c17b0 : (a0 == 0) = true := beq_iff_eq.mpr c17
            have c17b1 : (a0 != 0) = false := bne_eq_false_iff_eq.mpr c17
            clear c17
            by_cases c18 : t187 = 0
            · rw [if_pos c18] at H
              exact absurd H (by simp)
            · rw [if_neg c18] at H
              have c18b0 : (t187 == 0) = false := beq_eq_false_iff_ne.mpr c18
              have c18b1 : (t187 != 0) = true := bne_iff_ne.mpr c18
              replace H := Option.bind_eq_some_iff.mp H
              obtain ⟨t189, A190, H⟩ := H
              replace H : (some (t189, 0)) = some (r1, r2) := H
              have A19 := Aside0.mk A190
              clear A190
              simp only [Option.some.injEq, Prod.mk.injEq] at H
              obtain ⟨rfl, rfl⟩ := H
              go_enter Tryd.func43, Tryd.ntmps43
              go_wp2_with (first | ((with_reducible refine gate_callee (f := 39) rfl ?_); refine goesL_ (some 26) rfl rfl Tryd.func39 (by kernel_rfl) rfl #[.int .u64 a1, .int .i64 a3] rfl (by (try simp only [List.map_toArray, List.map_cons, List.map_nil]); first | done | rfl | (simp only [List.length_drop, List.length_take]; rfl)) ?_; (with_reducible refine (avocetref02_signed.calls a1 a3 t186 _ A8.out).mono ?_); rintro e w' ⟨rfl, ⟨nd, rfl⟩⟩; refine ⟨_, rfl, ?_⟩) | ((with_reducible refine gate_callee (f := 39) rfl ?_); refine goesL_ (some 29) rfl rfl Tryd.func39 (by kernel_rfl) rfl #[.int .u64 a2, .int .i64 a3] rfl (by (try simp only [List.map_toArray, List.map_cons, List.map_nil]); first | done | rfl | (simp only [List.length_drop, List.length_take]; rfl)) ?_; (with_reducible refine (avocetref02_signed.calls a2 a3 t187 _ A9.out).mono ?_); rintro e w' ⟨rfl, ⟨nd, rfl⟩⟩; refine ⟨_, rfl, ?_⟩) | ((with_reducible refine gate_callee (f := 38) rfl ?_); refine goesL_ (some 52) rfl rfl Tryd.func38 (by kernel_rfl) rfl #[.int .u64 (IntKind.u64.wrap (wrap64 (Int.tdiv t186 t187))), .int .i64 a3] rfl (by (try simp only [List.map_toArray, List.map_cons, List.map_nil]); first | done | rfl | (simp only [List.length_drop, List.length_take]; rfl)) ?_; (with_reducible refine (avocetref02_low.calls (IntKind.u64.wrap (wrap64 (Int.tdiv t186 t187))) a3 t189 _ A19.out).mono ?_); rintro e w' ⟨rfl, ⟨nd, rfl⟩⟩; refine ⟨_, rfl, ?_⟩))
              go_ret2
              exact ⟨by first | rfl | (simp; done) | (simp [*]; done), by repeat (first | exact Drawn0.refl _ | apply Drawn0.step)⟩
          · rw [if_neg c17] at H
            have c17b0 : (a0 == 0) = false := beq_eq_false_iff_ne.mpr c17
            have c17b1 : (a0 != 0) = true := bne_iff_ne.mpr c17
            by_cases c20 : t187 = 0
            · rw [if_pos c20] at H
              exact absurd H (by simp)
            · rw [if_neg c20] at H
              have c20b0 : (t187 == 0) = false := beq_eq_false_iff_ne.mpr c20
              have c20b1 : (t187 != 0) = true := bne_iff_ne.mpr c20
              replace H := Option.bind_eq_some_iff.mp H
              obtain ⟨t190, A210, H⟩ := H
              replace H : (some (t190, 0)) = some (r1, r2) := H
              have A21 := Aside0.mk A210
              clear A210
              simp only [Option.some.injEq, Prod.mk.injEq] at H
              obtain ⟨rfl, rfl⟩ := H
              go_enter Tryd.func43, Tryd.ntmps43
              go_wp2_with (first | ((with_reducible refine gate_callee (f := 39) rfl ?_); refine goesL_ (some 26) rfl rfl Tryd.func39 (by kernel_rfl) rfl #[.int .u64 a1, .int .i64 a3] rfl (by (try simp only [List.map_toArray, List.map_cons, List.map_nil]); first | done | rfl | (simp only [List.length_drop, List.length_take]; rfl)) ?_; (with_reducible refine (avocetref02_signed.calls a1 a3 t186 _ A8.out).mono ?_); rintro e w' ⟨rfl, ⟨nd, rfl⟩⟩; refine ⟨_, rfl, ?_⟩) | ((with_reducible refine gate_callee (f := 39) rfl ?_); refine goesL_ (some 29) rfl rfl Tryd.func39 (by kernel_rfl) rfl #[.int .u64 a2, .int .i64 a3] rfl (by (try simp only [List.map_toArray, List.map_cons, List.map_nil]); first | done | rfl | (simp only [List.length_drop, List.length_take]; rfl)) ?_; (with_reducible refine (avocetref02_signed.calls a2 a3 t187 _ A9.out).mono ?_); rintro e w' ⟨rfl, ⟨nd, rfl⟩⟩; refine ⟨_, rfl, ?_⟩) | ((with_reducible refine gate_callee (f := 38) rfl ?_); refine goesL_ (some 58) rfl rfl Tryd.func38 (by kernel_rfl) rfl #[.int .u64 (IntKind.u64.wrap (Int.tmod t186 t187)), .int .i64 a3] rfl (by (try simp only [List.map_toArray, List.map_cons, List.map_nil]); first | done | rfl | (simp only [List.length_drop, List.length_take]; rfl)) ?_; (with_reducible refine (avocetref02_low.calls (IntKind.u64.wrap (Int.tmod t186 t187)) a3 t190 _ A21.out).mono ?_); rintro e w' ⟨rfl, ⟨nd, rfl⟩⟩; refine ⟨_, rfl, ?_⟩))
              go_ret2
              exact ⟨by first | rfl | (simp; done) | (simp [*]; done), by repeat (first | exact Drawn0.refl _ | apply Drawn0.step)⟩

end Go.Proofs.YtjonlcnmpejamaaDoor.G
