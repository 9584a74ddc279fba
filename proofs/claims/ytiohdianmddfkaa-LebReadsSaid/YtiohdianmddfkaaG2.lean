-- Made by gprint.py (mine) over the kit's print.py, out of the translation; parts of it typed by hand.
import Derived.Test.YtiohdianmddfkaaG0
import Derived.Test.YtiohdianmddfkaaG1
namespace Go.Proofs.Ytiohdianmddfkaa.G
open Go.RowKit Go.Proofs.YtiohdianmddfkaaW.PrintWords Go.Proofs.YtiohdianmddfkaaW.PrintLast Go.Proofs.YtiohdianmddfkaaW.PrintMore
attribute [local go_sem] max2_int min2_int max_two min_two max_three min_three max_four min_four   -- for this text's walks alone
set_option linter.unusedVariables false
set_option linter.unusedSimpArgs false

/-! ### avocetlaw01_LebLens: function 4 -/
def avocetlaw01_LebLens.f (k : Nat) (a0 : Int) (a1 : Int) (a2 : Int) : Option (Bool) := (avocetlaw01_awake.f k).bind fun t187 => ((leb_LenS.f a2).bind fun t188 => (if t187 = true then ((leb_LenU.f (mn a0 a1)).bind fun t189 => (if t189 ≥ 1 then ((leb_LenU.f (mx a0 a1)).bind fun t190 => (if t190 ≤ 10 then (if t189 ≤ t190 then (if t188 ≥ 1 then (if t188 ≤ 10 then (if a2 < 0 then ((leb_LenS.f (wrap64 ((-1) - a2))).bind fun t191 => (some (t191 == t188))) else ((leb_LenU.f (IntKind.u64.wrap (a2))).bind fun t192 => (if t188 ≥ t192 then (if t188 ≤ (wrap64 (t192 + 1)) then ((leb_LenS.f (wrap64 ((-1) - a2))).bind fun t193 => (some (t193 == t188))) else (some false)) else (some false)))) else (some false)) else (some false)) else (some false)) else (some false))) else (some false))) else (some false)))
theorem avocetlaw01_LebLens.mono : ∀ a0 a1 a2 k, LeO (avocetlaw01_LebLens.f k a0 a1 a2) (avocetlaw01_LebLens.f (k + 1) a0 a1 a2) := by
  intro a0 a1 a2 k
  unfold avocetlaw01_LebLens.f
  repeat' first
      | (with_reducible exact avocetlaw01_awake.mono _)
      | (with_reducible exact LeO.refl _)
      | (with_reducible exact LeO.none _)
      | (with_reducible refine LeO.ite ?_ ?_)
      | (with_reducible refine LeO.bind ?_ (fun _ => ?_))
      | exact avocetlaw01_awake.mono _
      | exact LeO.none _
      | refine LeO.ite ?_ ?_
      | refine LeO.bind ?_ (fun _ => ?_)
set_option maxHeartbeats 8000000 in
set_option maxRecDepth 100000 in
theorem avocetlaw01_LebLens.calls (k : Nat) (a0 : Int) (a1 : Int) (a2 : Int) (r : Bool) (w : World) (h : avocetlaw01_LebLens.f k a0 a1 a2 = some r) :
    Calls Try.prog 4 #[.int .u64 a0, .int .u64 a1, .int .i64 a2] w fun e w' => e = .returned (.bool r) ∧ Below w.heap.size w w' := by
  have HB := Aside0.mk (Below.refl w.heap.size w)
  have H : ((avocetlaw01_awake.f k).bind fun t187 => ((leb_LenS.f a2).bind fun t188 => (if t187 = true then ((leb_LenU.f (mn a0 a1)).bind fun t189 => (if t189 ≥ 1 then ((leb_LenU.f (mx a0 a1)).bind fun t190 => (if t190 ≤ 10 then (if t189 ≤ t190 then (if t188 ≥ 1 then (if t188 ≤ 10 then (if a2 < 0 then ((leb_LenS.f (wrap64 ((-1) - a2))).bind fun t191 => (some (t191 == t188))) else ((leb_LenU.f (IntKind.u64.wrap (a2))).bind fun t192 => (if t188 ≥ t192 then (if t188 ≤ (wrap64 (t192 + 1)) then ((leb_LenS.f (wrap64 ((-1) - a2))).bind fun t193 => (some (t193 == t188))) else (some false)) else (some false)))) else (some false)) else (some false)) else (some false)) else (some false))) else (some false))) else (some false)))) = some r := h
  clear h
  replace H := Option.bind_eq_some_iff.mp H
  obtain ⟨t187, A40, H⟩ := H
  replace H : ((leb_LenS.f a2).bind fun t188 => (if t187 = true then ((leb_LenU.f (mn a0 a1)).bind fun t189 => (if t189 ≥ 1 then ((leb_LenU.f (mx a0 a1)).bind fun t190 => (if t190 ≤ 10 then (if t189 ≤ t190 then (if t188 ≥ 1 then (if t188 ≤ 10 then (if a2 < 0 then ((leb_LenS.f (wrap64 ((-1) - a2))).bind fun t191 => (some (t191 == t188))) else ((leb_LenU.f (IntKind.u64.wrap (a2))).bind fun t192 => (if t188 ≥ t192 then (if t188 ≤ (wrap64 (t192 + 1)) then ((leb_LenS.f (wrap64 ((-1) - a2))).bind fun t193 => (some (t193 == t188))) else (some false)) else (some false)))) else (some false)) else (some false)) else (some false)) else (some false))) else (some false))) else (some false))) = some r := H
  have A4 := Aside0.mk A40
  clear A40
  obtain ⟨ji5, hji5⟩ : ∃ j_ : Int, (mn a0 a1) = j_ := ⟨_, rfl⟩
  replace H : ((leb_LenS.f a2).bind fun t188 => (if t187 = true then ((leb_LenU.f (ji5)).bind fun t189 => (if t189 ≥ 1 then ((leb_LenU.f (mx a0 a1)).bind fun t190 => (if t190 ≤ 10 then (if t189 ≤ t190 then (if t188 ≥ 1 then (if t188 ≤ 10 then (if a2 < 0 then ((leb_LenS.f (wrap64 ((-1) - a2))).bind fun t191 => (some (t191 == t188))) else ((leb_LenU.f (IntKind.u64.wrap (a2))).bind fun t192 => (if t188 ≥ t192 then (if t188 ≤ (wrap64 (t192 + 1)) then ((leb_LenS.f (wrap64 ((-1) - a2))).bind fun t193 => (some (t193 == t188))) else (some false)) else (some false)))) else (some false)) else (some false)) else (some false)) else (some false))) else (some false))) else (some false))) = some r := by first | (rw [hji5] at H; exact H) | (simp only [hji5] at H ⊢; exact H)
  (try rw [hji5] at A4)
  have hji5_ : (if a1 < a0 then a1 else a0) = ji5 := hji5
  obtain ⟨ji6, hji6⟩ : ∃ j_ : Int, (mx a0 a1) = j_ := ⟨_, rfl⟩
  replace H : ((leb_LenS.f a2).bind fun t188 => (if t187 = true then ((leb_LenU.f (ji5)).bind fun t189 => (if t189 ≥ 1 then ((leb_LenU.f (ji6)).bind fun t190 => (if t190 ≤ 10 then (if t189 ≤ t190 then (if t188 ≥ 1 then (if t188 ≤ 10 then (if a2 < 0 then ((leb_LenS.f (wrap64 ((-1) - a2))).bind fun t191 => (some (t191 == t188))) else ((leb_LenU.f (IntKind.u64.wrap (a2))).bind fun t192 => (if t188 ≥ t192 then (if t188 ≤ (wrap64 (t192 + 1)) then ((leb_LenS.f (wrap64 ((-1) - a2))).bind fun t193 => (some (t193 == t188))) else (some false)) else (some false)))) else (some false)) else (some false)) else (some false)) else (some false))) else (some false))) else (some false))) = some r := by first | (rw [hji6] at H; exact H) | (simp only [hji6] at H ⊢; exact H)
  (try rw [hji6] at A4)
  have hji6_ : (if a0 < a1 then a1 else a0) = ji6 := hji6
  replace H := Option.bind_eq_some_iff.mp H
  obtain ⟨t188, A70, H⟩ := H
  replace H : (if t187 = true then ((leb_LenU.f (ji5)).bind fun t189 => (if t189 ≥ 1 then ((leb_LenU.f (ji6)).bind fun t190 => (if t190 ≤ 10 then (if t189 ≤ t190 then (if t188 ≥ 1 then (if t188 ≤ 10 then (if a2 < 0 then ((leb_LenS.f (wrap64 ((-1) - a2))).bind fun t191 => (some (t191 == t188))) else ((leb_LenU.f (IntKind.u64.wrap (a2))).bind fun t192 => (if t188 ≥ t192 then (if t188 ≤ (wrap64 (t192 + 1)) then ((leb_LenS.f (wrap64 ((-1) - a2))).bind fun t193 => (some (t193 == t188))) else (some false)) else (some false)))) else (some false)) else (some false)) else (some false)) else (some false))) else (some false))) else (some false)) = some r := H
  have A7 := Aside0.mk A70
  clear A70
  by_cases c8 : t187 = true
  · subst c8
    have H1 : ((leb_LenU.f (ji5)).bind fun t189 => (if t189 ≥ 1 then ((leb_LenU.f (ji6)).bind fun t190 => (if t190 ≤ 10 then (if t189 ≤ t190 then (if t188 ≥ 1 then (if t188 ≤ 10 then (if a2 < 0 then ((leb_LenS.f (wrap64 ((-1) - a2))).bind fun t191 => (some (t191 == t188))) else ((leb_LenU.f (IntKind.u64.wrap (a2))).bind fun t192 => (if t188 ≥ t192 then (if t188 ≤ (wrap64 (t192 + 1)) then ((leb_LenS.f (wrap64 ((-1) - a2))).bind fun t193 => (some (t193 == t188))) else (some false)) else (some false)))) else (some false)) else (some false)) else (some false)) else (some false))) else (some false))) = some r := by rw [if_pos rfl] at H; exact H
    clear H
    have H := H1
    clear H1
    replace H := Option.bind_eq_some_iff.mp H
    obtain ⟨t189, A90, H⟩ := H
    replace H : (if t189 ≥ 1 then ((leb_LenU.f (ji6)).bind fun t190 => (if t190 ≤ 10 then (if t189 ≤ t190 then (if t188 ≥ 1 then (if t188 ≤ 10 then (if a2 < 0 then ((leb_LenS.f (wrap64 ((-1) - a2))).bind fun t191 => (some (t191 == t188))) else ((leb_LenU.f (IntKind.u64.wrap (a2))).bind fun t192 => (if t188 ≥ t192 then (if t188 ≤ (wrap64 (t192 + 1)) then ((leb_LenS.f (wrap64 ((-1) - a2))).bind fun t193 => (some (t193 == t188))) else (some false)) else (some false)))) else (some false)) else (some false)) else (some false)) else (some false))) else (some false)) = some r := H
    have A9 := Aside0.mk A90
    clear A90
    by_cases c10 : t189 ≥ 1
    · rw [if_pos c10] at H
      have c10b0 : decide (1 ≤ t189) = true := decide_eq_true c10
      clear c10
      replace H := Option.bind_eq_some_iff.mp H
      obtain ⟨t190, A110, H⟩ := H
      replace H : (if t190 ≤ 10 then (if t189 ≤ t190 then (if t188 ≥ 1 then (if t188 ≤ 10 then (if a2 < 0 then ((leb_LenS.f (wrap64 ((-1) - a2))).bind fun t191 => (some (t191 == t188))) else ((leb_LenU.f (IntKind.u64.wrap (a2))).bind fun t192 => (if t188 ≥ t192 then (if t188 ≤ (wrap64 (t192 + 1)) then ((leb_LenS.f (wrap64 ((-1) - a2))).bind fun t193 => (some (t193 == t188))) else (some false)) else (some false)))) else (some false)) else (some false)) else (some false)) else (some false)) = some r := H
      have A11 := Aside0.mk A110
      clear A110
      by_cases c12 : t190 ≤ 10
      · rw [if_pos c12] at H
        have c12b0 : decide (t190 ≤ 10) = true := decide_eq_true c12
        clear c12
        by_cases c13 : t189 ≤ t190
        · rw [if_pos c13] at H
          have c13b0 : decide (t189 ≤ t190) = true := decide_eq_true c13
          clear c13
          by_cases c14 : t188 ≥ 1
          · rw [if_pos c14] at H
            have c14b0 : decide (1 ≤ t188) = true := decide_eq_true c14
            clear c14
            by_cases c15 : t188 ≤ 10
            · rw [if_pos c15] at H
              have c15b0 : decide (t188 ≤ 10) = true := decide_eq_true c15
              clear c15
              by_cases c16 : a2 < 0
              · rw [if_pos c16] at H
                have c16b0 : decide (a2 < 0) = true := decide_eq_true c16
                clear c16
                replace H := Option.bind_eq_some_iff.mp H
                obtain ⟨t191, A170, H⟩ := H
                replace H : (some (t191 == t188)) = some r := H
                have A17 := Aside0.mk A170
                clear A170
                obtain rfl := Option.some.inj H
                go_enter Try.func4, Try.ntmps4
                go_wp2_with (first | ((with_reducible refine gate_callee (f := 10) rfl ?_); refine goesL_ (some 11) rfl rfl Try.func10 (by kernel_rfl) rfl #[] rfl (by (try simp only [List.map_toArray, List.map_cons, List.map_nil]); first | done | rfl | (simp only [List.length_drop, List.length_take]; rfl)) ?_; (with_reducible refine (avocetlaw01_awake.calls k  true _ A4.out).mono ?_); rintro e w18 ⟨rfl, hb⟩; refine ⟨_, rfl, ?_⟩; have n0_ := Aside0.mk (below_step (by repeat (first | (with_reducible first | exact HB.out | apply below_alloc | apply pw_below_drewN | apply below_drew1) | exact HB.out)) hb); clear HB; have HB := n0_; clear n0_; (try clear hb); (try clear hb2); (try clear hk); (try clear hi)) | ((with_reducible refine gate_callee (f := 17) rfl ?_); refine goesL_ (some 19) rfl rfl Try.func17 (by kernel_rfl) rfl #[.int .i64 a2] rfl (by (try simp only [List.map_toArray, List.map_cons, List.map_nil]); first | done | rfl | (simp only [List.length_drop, List.length_take]; rfl)) ?_; (with_reducible refine (leb_LenS.calls a2 t188 _ A7.out).mono ?_); rintro e w' ⟨rfl, ⟨nd, rfl⟩⟩; refine ⟨_, rfl, ?_⟩) | (go_at_call 15; (with_reducible refine (leb_LenU.calls ji5 t189 _ A9.out).mono ?_); rintro e w19 ⟨rfl, hb⟩; have n0_ := Aside0.mk (below_step (by repeat (first | (with_reducible first | exact HB.out | apply below_alloc | apply pw_below_drewN | apply below_drew1) | exact HB.out)) hb); clear HB; have HB := n0_; clear n0_; (try clear hb); (try clear hb2); (try clear hk); (try clear hi)) | (go_at_call 15; (with_reducible refine (leb_LenU.calls ji6 t190 _ A11.out).mono ?_); rintro e w20 ⟨rfl, hb⟩; have n0_ := Aside0.mk (below_step (by repeat (first | (with_reducible first | exact HB.out | apply below_alloc | apply pw_below_drewN | apply below_drew1) | exact HB.out)) hb); clear HB; have HB := n0_; clear n0_; (try clear hb); (try clear hb2); (try clear hk); (try clear hi)) | (go_at_call 17; (with_reducible refine (leb_LenS.calls (wrap64 ((-1) - a2)) t191 _ A17.out).mono ?_); rintro e w' ⟨rfl, ⟨nd, rfl⟩⟩))
                go_ret
                exact ⟨by first | rfl | (simp [errW_none, errW_some] <;> rfl) | (simp only [← hji5, ← hji6]; first | rfl | (simp [errW_none, errW_some] <;> rfl)) | (simp [*, errW_none, errW_some] <;> rfl), by repeat (first | (with_reducible first | exact HB.out | apply below_alloc | apply pw_below_drewN | apply below_drew1) | exact HB.out)⟩
              · rw [if_neg c16] at H
                have c16b0 : decide (a2 < 0) = false := decide_eq_false c16
                clear c16
                replace H := Option.bind_eq_some_iff.mp H
                obtain ⟨t192, A210, H⟩ := H
                replace H : (if t188 ≥ t192 then (if t188 ≤ (wrap64 (t192 + 1)) then ((leb_LenS.f (wrap64 ((-1) - a2))).bind fun t193 => (some (t193 == t188))) else (some false)) else (some false)) = some r := H
                have A21 := Aside0.mk A210
                clear A210
                by_cases c22 : t188 ≥ t192
                · rw [if_pos c22] at H
                  have c22b0 : decide (t192 ≤ t188) = true := decide_eq_true c22
                  clear c22
                  by_cases c23 : t188 ≤ (wrap64 (t192 + 1))
                  · rw [if_pos c23] at H
                    have c23b0 : decide (t188 ≤ (wrap64 (t192 + 1))) = true := decide_eq_true c23
                    clear c23
                    replace H := Option.bind_eq_some_iff.mp H
                    obtain ⟨t193, A240, H⟩ := H
                    replace H : (some (t193 == t188)) = some r := H
                    have A24 := Aside0.mk A240
                    clear A240
                    obtain rfl := Option.some.inj H
                    go_enter Try.func4, Try.ntmps4
                    go_wp2_with (first | ((with_reducible refine gate_callee (f := 10) rfl ?_); refine goesL_ (some 11) rfl rfl Try.func10 (by kernel_rfl) rfl #[] rfl (by (try simp only [List.map_toArray, List.map_cons, List.map_nil]); first | done | rfl | (simp only [List.length_drop, List.length_take]; rfl)) ?_; (with_reducible refine (avocetlaw01_awake.calls k  true _ A4.out).mono ?_); rintro e w25 ⟨rfl, hb⟩; refine ⟨_, rfl, ?_⟩; have n0_ := Aside0.mk (below_step (by repeat (first | (with_reducible first | exact HB.out | apply below_alloc | apply pw_below_drewN | apply below_drew1) | exact HB.out)) hb); clear HB; have HB := n0_; clear n0_; (try clear hb); (try clear hb2); (try clear hk); (try clear hi)) | ((with_reducible refine gate_callee (f := 17) rfl ?_); refine goesL_ (some 19) rfl rfl Try.func17 (by kernel_rfl) rfl #[.int .i64 a2] rfl (by (try simp only [List.map_toArray, List.map_cons, List.map_nil]); first | done | rfl | (simp only [List.length_drop, List.length_take]; rfl)) ?_; (with_reducible refine (leb_LenS.calls a2 t188 _ A7.out).mono ?_); rintro e w' ⟨rfl, ⟨nd, rfl⟩⟩; refine ⟨_, rfl, ?_⟩) | (go_at_call 15; (with_reducible refine (leb_LenU.calls ji5 t189 _ A9.out).mono ?_); rintro e w26 ⟨rfl, hb⟩; have n0_ := Aside0.mk (below_step (by repeat (first | (with_reducible first | exact HB.out | apply below_alloc | apply pw_below_drewN | apply below_drew1) | exact HB.out)) hb); clear HB; have HB := n0_; clear n0_; (try clear hb); (try clear hb2); (try clear hk); (try clear hi)) | (go_at_call 15; (with_reducible refine (leb_LenU.calls ji6 t190 _ A11.out).mono ?_); rintro e w27 ⟨rfl, hb⟩; have n0_ := Aside0.mk (below_step (by repeat (first | (with_reducible first | exact HB.out | apply below_alloc | apply pw_below_drewN | apply below_drew1) | exact HB.out)) hb); clear HB; have HB := n0_; clear n0_; (try clear hb); (try clear hb2); (try clear hk); (try clear hi)) | (go_at_call 15; (with_reducible refine (leb_LenU.calls (IntKind.u64.wrap (a2)) t192 _ A21.out).mono ?_); rintro e w28 ⟨rfl, hb⟩; have n0_ := Aside0.mk (below_step (by repeat (first | (with_reducible first | exact HB.out | apply below_alloc | apply pw_below_drewN | apply below_drew1) | exact HB.out)) hb); clear HB; have HB := n0_; clear n0_; (try clear hb); (try clear hb2); (try clear hk); (try clear hi)) | (go_at_call 17; (with_reducible refine (leb_LenS.calls (wrap64 ((-1) - a2)) t193 _ A24.out).mono ?_); rintro e w' ⟨rfl, ⟨nd, rfl⟩⟩))
                    go_ret
                    exact ⟨by first | rfl | (simp [errW_none, errW_some] <;> rfl) | (simp only [← hji5, ← hji6]; first | rfl | (simp [errW_none, errW_some] <;> rfl)) | (simp [*, errW_none, errW_some] <;> rfl), by repeat (first | (with_reducible first | exact HB.out | apply below_alloc | apply pw_below_drewN | apply below_drew1) | exact HB.out)⟩
                  · rw [if_neg c23] at H
                    have c23b0 : decide (t188 ≤ (wrap64 (t192 + 1))) = false := decide_eq_false c23
                    clear c23
                    obtain rfl := Option.some.inj H
                    go_enter Try.func4, Try.ntmps4
                    go_wp2_with (first | ((with_reducible refine gate_callee (f := 10) rfl ?_); refine goesL_ (some 11) rfl rfl Try.func10 (by kernel_rfl) rfl #[] rfl (by (try simp only [List.map_toArray, List.map_cons, List.map_nil]); first | done | rfl | (simp only [List.length_drop, List.length_take]; rfl)) ?_; (with_reducible refine (avocetlaw01_awake.calls k  true _ A4.out).mono ?_); rintro e w29 ⟨rfl, hb⟩; refine ⟨_, rfl, ?_⟩; have n0_ := Aside0.mk (below_step (by repeat (first | (with_reducible first | exact HB.out | apply below_alloc | apply pw_below_drewN | apply below_drew1) | exact HB.out)) hb); clear HB; have HB := n0_; clear n0_; (try clear hb); (try clear hb2); (try clear hk); (try clear hi)) | ((with_reducible refine gate_callee (f := 17) rfl ?_); refine goesL_ (some 19) rfl rfl Try.func17 (by kernel_rfl) rfl #[.int .i64 a2] rfl (by (try simp only [List.map_toArray, List.map_cons, List.map_nil]); first | done | rfl | (simp only [List.length_drop, List.length_take]; rfl)) ?_; (with_reducible refine (leb_LenS.calls a2 t188 _ A7.out).mono ?_); rintro e w' ⟨rfl, ⟨nd, rfl⟩⟩; refine ⟨_, rfl, ?_⟩) | (go_at_call 15; (with_reducible refine (leb_LenU.calls ji5 t189 _ A9.out).mono ?_); rintro e w30 ⟨rfl, hb⟩; have n0_ := Aside0.mk (below_step (by repeat (first | (with_reducible first | exact HB.out | apply below_alloc | apply pw_below_drewN | apply below_drew1) | exact HB.out)) hb); clear HB; have HB := n0_; clear n0_; (try clear hb); (try clear hb2); (try clear hk); (try clear hi)) | (go_at_call 15; (with_reducible refine (leb_LenU.calls ji6 t190 _ A11.out).mono ?_); rintro e w31 ⟨rfl, hb⟩; have n0_ := Aside0.mk (below_step (by repeat (first | (with_reducible first | exact HB.out | apply below_alloc | apply pw_below_drewN | apply below_drew1) | exact HB.out)) hb); clear HB; have HB := n0_; clear n0_; (try clear hb); (try clear hb2); (try clear hk); (try clear hi)) | (go_at_call 15; (with_reducible refine (leb_LenU.calls (IntKind.u64.wrap (a2)) t192 _ A21.out).mono ?_); rintro e w32 ⟨rfl, hb⟩; have n0_ := Aside0.mk (below_step (by repeat (first | (with_reducible first | exact HB.out | apply below_alloc | apply pw_below_drewN | apply below_drew1) | exact HB.out)) hb); clear HB; have HB := n0_; clear n0_; (try clear hb); (try clear hb2); (try clear hk); (try clear hi)))
                    go_ret
                    exact ⟨by first | rfl | (simp [errW_none, errW_some] <;> rfl) | (simp only [← hji5, ← hji6]; first | rfl | (simp [errW_none, errW_some] <;> rfl)) | (simp [*, errW_none, errW_some] <;> rfl), by repeat (first | (with_reducible first | exact HB.out | apply below_alloc | apply pw_below_drewN | apply below_drew1) | exact HB.out)⟩
                · rw [if_neg c22] at H
                  have c22b0 : decide (t192 ≤ t188) = false := decide_eq_false c22
                  clear c22
                  obtain rfl := Option.some.inj H
                  go_enter Try.func4, Try.ntmps4
                  go_wp2_with (first | ((with_reducible refine gate_callee (f := 10) rfl ?_); refine goesL_ (some 11) rfl rfl Try.func10 (by kernel_rfl) rfl #[] rfl (by (try simp only [List.map_toArray, List.map_cons, List.map_nil]); first | done | rfl | (simp only [List.length_drop, List.length_take]; rfl)) ?_; (with_reducible refine (avocetlaw01_awake.calls k  true _ A4.out).mono ?_); rintro e w33 ⟨rfl, hb⟩; refine ⟨_, rfl, ?_⟩; have n0_ := Aside0.mk (below_step (by repeat (first | (with_reducible first | exact HB.out | apply below_alloc | apply pw_below_drewN | apply below_drew1) | exact HB.out)) hb); clear HB; have HB := n0_; clear n0_; (try clear hb); (try clear hb2); (try clear hk); (try clear hi)) | ((with_reducible refine gate_callee (f := 17) rfl ?_); refine goesL_ (some 19) rfl rfl Try.func17 (by kernel_rfl) rfl #[.int .i64 a2] rfl (by (try simp only [List.map_toArray, List.map_cons, List.map_nil]); first | done | rfl | (simp only [List.length_drop, List.length_take]; rfl)) ?_; (with_reducible refine (leb_LenS.calls a2 t188 _ A7.out).mono ?_); rintro e w' ⟨rfl, ⟨nd, rfl⟩⟩; refine ⟨_, rfl, ?_⟩) | (go_at_call 15; (with_reducible refine (leb_LenU.calls ji5 t189 _ A9.out).mono ?_); rintro e w34 ⟨rfl, hb⟩; have n0_ := Aside0.mk (below_step (by repeat (first | (with_reducible first | exact HB.out | apply below_alloc | apply pw_below_drewN | apply below_drew1) | exact HB.out)) hb); clear HB; have HB := n0_; clear n0_; (try clear hb); (try clear hb2); (try clear hk); (try clear hi)) | (go_at_call 15; (with_reducible refine (leb_LenU.calls ji6 t190 _ A11.out).mono ?_); rintro e w35 ⟨rfl, hb⟩; have n0_ := Aside0.mk (below_step (by repeat (first | (with_reducible first | exact HB.out | apply below_alloc | apply pw_below_drewN | apply below_drew1) | exact HB.out)) hb); clear HB; have HB := n0_; clear n0_; (try clear hb); (try clear hb2); (try clear hk); (try clear hi)) | (go_at_call 15; (with_reducible refine (leb_LenU.calls (IntKind.u64.wrap (a2)) t192 _ A21.out).mono ?_); rintro e w36 ⟨rfl, hb⟩; have n0_ := Aside0.mk (below_step (by repeat (first | (with_reducible first | exact HB.out | apply below_alloc | apply pw_below_drewN | apply below_drew1) | exact HB.out)) hb); clear HB; have HB := n0_; clear n0_; (try clear hb); (try clear hb2); (try clear hk); (try clear hi)))
                  go_ret
                  exact ⟨by first | rfl | (simp [errW_none, errW_some] <;> rfl) | (simp only [← hji5, ← hji6]; first | rfl | (simp [errW_none, errW_some] <;> rfl)) | (simp [*, errW_none, errW_some] <;> rfl), by repeat (first | (with_reducible first | exact HB.out | apply below_alloc | apply pw_below_drewN | apply below_drew1) | exact HB.out)⟩
            · rw [if_neg c15] at H
              have c15b0 : decide (t188 ≤ 10) = false := decide_eq_false c15
              clear c15
              obtain rfl := Option.some.inj H
              go_enter Try.func4, Try.ntmps4
              go_wp2_with (first | ((with_reducible refine gate_callee (f := 10) rfl ?_); refine goesL_ (some 11) rfl rfl Try.func10 (by kernel_rfl) rfl #[] rfl (by (try simp only [List.map_toArray, List.map_cons, List.map_nil]); first | done | rfl | (simp only [List.length_drop, List.length_take]; rfl)) ?_; (with_reducible refine (avocetlaw01_awake.calls k  true _ A4.out).mono ?_); rintro e w37 ⟨rfl, hb⟩; refine ⟨_, rfl, ?_⟩; have n0_ := Aside0.mk (below_step (by repeat (first | (with_reducible first | exact HB.out | apply below_alloc | apply pw_below_drewN | apply below_drew1) | exact HB.out)) hb); clear HB; have HB := n0_; clear n0_; (try clear hb); (try clear hb2); (try clear hk); (try clear hi)) | ((with_reducible refine gate_callee (f := 17) rfl ?_); refine goesL_ (some 19) rfl rfl Try.func17 (by kernel_rfl) rfl #[.int .i64 a2] rfl (by (try simp only [List.map_toArray, List.map_cons, List.map_nil]); first | done | rfl | (simp only [List.length_drop, List.length_take]; rfl)) ?_; (with_reducible refine (leb_LenS.calls a2 t188 _ A7.out).mono ?_); rintro e w' ⟨rfl, ⟨nd, rfl⟩⟩; refine ⟨_, rfl, ?_⟩) | (go_at_call 15; (with_reducible refine (leb_LenU.calls ji5 t189 _ A9.out).mono ?_); rintro e w38 ⟨rfl, hb⟩; have n0_ := Aside0.mk (below_step (by repeat (first | (with_reducible first | exact HB.out | apply below_alloc | apply pw_below_drewN | apply below_drew1) | exact HB.out)) hb); clear HB; have HB := n0_; clear n0_; (try clear hb); (try clear hb2); (try clear hk); (try clear hi)) | (go_at_call 15; (with_reducible refine (leb_LenU.calls ji6 t190 _ A11.out).mono ?_); rintro e w39 ⟨rfl, hb⟩; have n0_ := Aside0.mk (below_step (by repeat (first | (with_reducible first | exact HB.out | apply below_alloc | apply pw_below_drewN | apply below_drew1) | exact HB.out)) hb); clear HB; have HB := n0_; clear n0_; (try clear hb); (try clear hb2); (try clear hk); (try clear hi)))
              go_ret
              exact ⟨by first | rfl | (simp [errW_none, errW_some] <;> rfl) | (simp only [← hji5, ← hji6]; first | rfl | (simp [errW_none, errW_some] <;> rfl)) | (simp [*, errW_none, errW_some] <;> rfl), by repeat (first | (with_reducible first | exact HB.out | apply below_alloc | apply pw_below_drewN | apply below_drew1) | exact HB.out)⟩
          · rw [if_neg c14] at H
            have c14b0 : decide (1 ≤ t188) = false := decide_eq_false c14
            clear c14
            obtain rfl := Option.some.inj H
            go_enter Try.func4, Try.ntmps4
            go_wp2_with (first | ((with_reducible refine gate_callee (f := 10) rfl ?_); refine goesL_ (some 11) rfl rfl Try.func10 (by kernel_rfl) rfl #[] rfl (by (try simp only [List.map_toArray, List.map_cons, List.map_nil]); first | done | rfl | (simp only [List.length_drop, List.length_take]; rfl)) ?_; (with_reducible refine (avocetlaw01_awake.calls k  true _ A4.out).mono ?_); rintro e w40 ⟨rfl, hb⟩; refine ⟨_, rfl, ?_⟩; have n0_ := Aside0.mk (below_step (by repeat (first | (with_reducible first | exact HB.out | apply below_alloc | apply pw_below_drewN | apply below_drew1) | exact HB.out)) hb); clear HB; have HB := n0_; clear n0_; (try clear hb); (try clear hb2); (try clear hk); (try clear hi)) | ((with_reducible refine gate_callee (f := 17) rfl ?_); refine goesL_ (some 19) rfl rfl Try.func17 (by kernel_rfl) rfl #[.int .i64 a2] rfl (by (try simp only [List.map_toArray, List.map_cons, List.map_nil]); first | done | rfl | (simp only [List.length_drop, List.length_take]; rfl)) ?_; (with_reducible refine (leb_LenS.calls a2 t188 _ A7.out).mono ?_); rintro e w' ⟨rfl, ⟨nd, rfl⟩⟩; refine ⟨_, rfl, ?_⟩) | (go_at_call 15; (with_reducible refine (leb_LenU.calls ji5 t189 _ A9.out).mono ?_); rintro e w41 ⟨rfl, hb⟩; have n0_ := Aside0.mk (below_step (by repeat (first | (with_reducible first | exact HB.out | apply below_alloc | apply pw_below_drewN | apply below_drew1) | exact HB.out)) hb); clear HB; have HB := n0_; clear n0_; (try clear hb); (try clear hb2); (try clear hk); (try clear hi)) | (go_at_call 15; (with_reducible refine (leb_LenU.calls ji6 t190 _ A11.out).mono ?_); rintro e w42 ⟨rfl, hb⟩; have n0_ := Aside0.mk (below_step (by repeat (first | (with_reducible first | exact HB.out | apply below_alloc | apply pw_below_drewN | apply below_drew1) | exact HB.out)) hb); clear HB; have HB := n0_; clear n0_; (try clear hb); (try clear hb2); (try clear hk); (try clear hi)))
            go_ret
            exact ⟨by first | rfl | (simp [errW_none, errW_some] <;> rfl) | (simp only [← hji5, ← hji6]; first | rfl | (simp [errW_none, errW_some] <;> rfl)) | (simp [*, errW_none, errW_some] <;> rfl), by repeat (first | (with_reducible first | exact HB.out | apply below_alloc | apply pw_below_drewN | apply below_drew1) | exact HB.out)⟩
        · rw [if_neg c13] at H
          have c13b0 : decide (t189 ≤ t190) = false := decide_eq_false c13
          clear c13
          obtain rfl := Option.some.inj H
          go_enter Try.func4, Try.ntmps4
          go_wp2_with (first | ((with_reducible refine gate_callee (f := 10) rfl ?_); refine goesL_ (some 11) rfl rfl Try.func10 (by kernel_rfl) rfl #[] rfl (by (try simp only [List.map_toArray, List.map_cons, List.map_nil]); first | done | rfl | (simp only [List.length_drop, List.length_take]; rfl)) ?_; (with_reducible refine (avocetlaw01_awake.calls k  true _ A4.out).mono ?_); rintro e w43 ⟨rfl, hb⟩; refine ⟨_, rfl, ?_⟩; have n0_ := Aside0.mk (below_step (by repeat (first | (with_reducible first | exact HB.out | apply below_alloc | apply pw_below_drewN | apply below_drew1) | exact HB.out)) hb); clear HB; have HB := n0_; clear n0_; (try clear hb); (try clear hb2); (try clear hk); (try clear hi)) | ((with_reducible refine gate_callee (f := 17) rfl ?_); refine goesL_ (some 19) rfl rfl Try.func17 (by kernel_rfl) rfl #[.int .i64 a2] rfl (by (try simp only [List.map_toArray, List.map_cons, List.map_nil]); first | done | rfl | (simp only [List.length_drop, List.length_take]; rfl)) ?_; (with_reducible refine (leb_LenS.calls a2 t188 _ A7.out).mono ?_); rintro e w' ⟨rfl, ⟨nd, rfl⟩⟩; refine ⟨_, rfl, ?_⟩) | (go_at_call 15; (with_reducible refine (leb_LenU.calls ji5 t189 _ A9.out).mono ?_); rintro e w44 ⟨rfl, hb⟩; have n0_ := Aside0.mk (below_step (by repeat (first | (with_reducible first | exact HB.out | apply below_alloc | apply pw_below_drewN | apply below_drew1) | exact HB.out)) hb); clear HB; have HB := n0_; clear n0_; (try clear hb); (try clear hb2); (try clear hk); (try clear hi)) | (go_at_call 15; (with_reducible refine (leb_LenU.calls ji6 t190 _ A11.out).mono ?_); rintro e w45 ⟨rfl, hb⟩; have n0_ := Aside0.mk (below_step (by repeat (first | (with_reducible first | exact HB.out | apply below_alloc | apply pw_below_drewN | apply below_drew1) | exact HB.out)) hb); clear HB; have HB := n0_; clear n0_; (try clear hb); (try clear hb2); (try clear hk); (try clear hi)))
          go_ret
          exact ⟨by first | rfl | (simp [errW_none, errW_some] <;> rfl) | (simp only [← hji5, ← hji6]; first | rfl | (simp [errW_none, errW_some] <;> rfl)) | (simp [*, errW_none, errW_some] <;> rfl), by repeat (first | (with_reducible first | exact HB.out | apply below_alloc | apply pw_below_drewN | apply below_drew1) | exact HB.out)⟩
      · rw [if_neg c12] at H
        have c12b0 : decide (t190 ≤ 10) = false := decide_eq_false c12
        clear c12
        obtain rfl := Option.some.inj H
        go_enter Try.func4, Try.ntmps4
        go_wp2_with (first | ((with_reducible refine gate_callee (f := 10) rfl ?_); refine goesL_ (some 11) rfl rfl Try.func10 (by kernel_rfl) rfl #[] rfl (by (try simp only [List.map_toArray, List.map_cons, List.map_nil]); first | done | rfl | (simp only [List.length_drop, List.length_take]; rfl)) ?_; (with_reducible refine (avocetlaw01_awake.calls k  true _ A4.out).mono ?_); rintro e w46 ⟨rfl, hb⟩; refine ⟨_, rfl, ?_⟩; have n0_ := Aside0.mk (below_step (by repeat (first | (with_reducible first | exact HB.out | apply below_alloc | apply pw_below_drewN | apply below_drew1) | exact HB.out)) hb); clear HB; have HB := n0_; clear n0_; (try clear hb); (try clear hb2); (try clear hk); (try clear hi)) | ((with_reducible refine gate_callee (f := 17) rfl ?_); refine goesL_ (some 19) rfl rfl Try.func17 (by kernel_rfl) rfl #[.int .i64 a2] rfl (by (try simp only [List.map_toArray, List.map_cons, List.map_nil]); first | done | rfl | (simp only [List.length_drop, List.length_take]; rfl)) ?_; (with_reducible refine (leb_LenS.calls a2 t188 _ A7.out).mono ?_); rintro e w' ⟨rfl, ⟨nd, rfl⟩⟩; refine ⟨_, rfl, ?_⟩) | (go_at_call 15; (with_reducible refine (leb_LenU.calls ji5 t189 _ A9.out).mono ?_); rintro e w47 ⟨rfl, hb⟩; have n0_ := Aside0.mk (below_step (by repeat (first | (with_reducible first | exact HB.out | apply below_alloc | apply pw_below_drewN | apply below_drew1) | exact HB.out)) hb); clear HB; have HB := n0_; clear n0_; (try clear hb); (try clear hb2); (try clear hk); (try clear hi)) | (go_at_call 15; (with_reducible refine (leb_LenU.calls ji6 t190 _ A11.out).mono ?_); rintro e w48 ⟨rfl, hb⟩; have n0_ := Aside0.mk (below_step (by repeat (first | (with_reducible first | exact HB.out | apply below_alloc | apply pw_below_drewN | apply below_drew1) | exact HB.out)) hb); clear HB; have HB := n0_; clear n0_; (try clear hb); (try clear hb2); (try clear hk); (try clear hi)))
        go_ret
        exact ⟨by first | rfl | (simp [errW_none, errW_some] <;> rfl) | (simp only [← hji5, ← hji6]; first | rfl | (simp [errW_none, errW_some] <;> rfl)) | (simp [*, errW_none, errW_some] <;> rfl), by repeat (first | (with_reducible first | exact HB.out | apply below_alloc | apply pw_below_drewN | apply below_drew1) | exact HB.out)⟩
    · rw [if_neg c10] at H
      have c10b0 : decide (1 ≤ t189) = false := decide_eq_false c10
      clear c10
      obtain rfl := Option.some.inj H
      go_enter Try.func4, Try.ntmps4
      go_wp2_with (first | ((with_reducible refine gate_callee (f := 10) rfl ?_); refine goesL_ (some 11) rfl rfl Try.func10 (by kernel_rfl) rfl #[] rfl (by (try simp only [List.map_toArray, List.map_cons, List.map_nil]); first | done | rfl | (simp only [List.length_drop, List.length_take]; rfl)) ?_; (with_reducible refine (avocetlaw01_awake.calls k  true _ A4.out).mono ?_); rintro e w49 ⟨rfl, hb⟩; refine ⟨_, rfl, ?_⟩; have n0_ := Aside0.mk (below_step (by repeat (first | (with_reducible first | exact HB.out | apply below_alloc | apply pw_below_drewN | apply below_drew1) | exact HB.out)) hb); clear HB; have HB := n0_; clear n0_; (try clear hb); (try clear hb2); (try clear hk); (try clear hi)) | ((with_reducible refine gate_callee (f := 17) rfl ?_); refine goesL_ (some 19) rfl rfl Try.func17 (by kernel_rfl) rfl #[.int .i64 a2] rfl (by (try simp only [List.map_toArray, List.map_cons, List.map_nil]); first | done | rfl | (simp only [List.length_drop, List.length_take]; rfl)) ?_; (with_reducible refine (leb_LenS.calls a2 t188 _ A7.out).mono ?_); rintro e w' ⟨rfl, ⟨nd, rfl⟩⟩; refine ⟨_, rfl, ?_⟩) | (go_at_call 15; (with_reducible refine (leb_LenU.calls ji5 t189 _ A9.out).mono ?_); rintro e w50 ⟨rfl, hb⟩; have n0_ := Aside0.mk (below_step (by repeat (first | (with_reducible first | exact HB.out | apply below_alloc | apply pw_below_drewN | apply below_drew1) | exact HB.out)) hb); clear HB; have HB := n0_; clear n0_; (try clear hb); (try clear hb2); (try clear hk); (try clear hi)))
      go_ret
      exact ⟨by first | rfl | (simp [errW_none, errW_some] <;> rfl) | (simp only [← hji5, ← hji6]; first | rfl | (simp [errW_none, errW_some] <;> rfl)) | (simp [*, errW_none, errW_some] <;> rfl), by repeat (first | (with_reducible first | exact HB.out | apply below_alloc | apply pw_below_drewN | apply below_drew1) | exact HB.out)⟩
  · replace c8 := Bool.eq_false_iff.mpr c8
    subst c8
    have H1 : (some false) = some r := by rw [if_neg (show ¬ (false = true) by decide)] at H; exact H
    clear H
    have H := H1
    clear H1
    obtain rfl := Option.some.inj H
    go_enter Try.func4, Try.ntmps4
    go_wp2_with (first | ((with_reducible refine gate_callee (f := 10) rfl ?_); refine goesL_ (some 11) rfl rfl Try.func10 (by kernel_rfl) rfl #[] rfl (by (try simp only [List.map_toArray, List.map_cons, List.map_nil]); first | done | rfl | (simp only [List.length_drop, List.length_take]; rfl)) ?_; (with_reducible refine (avocetlaw01_awake.calls k  false _ A4.out).mono ?_); rintro e w51 ⟨rfl, hb⟩; refine ⟨_, rfl, ?_⟩; have n0_ := Aside0.mk (below_step (by repeat (first | (with_reducible first | exact HB.out | apply below_alloc | apply pw_below_drewN | apply below_drew1) | exact HB.out)) hb); clear HB; have HB := n0_; clear n0_; (try clear hb); (try clear hb2); (try clear hk); (try clear hi)) | ((with_reducible refine gate_callee (f := 17) rfl ?_); refine goesL_ (some 19) rfl rfl Try.func17 (by kernel_rfl) rfl #[.int .i64 a2] rfl (by (try simp only [List.map_toArray, List.map_cons, List.map_nil]); first | done | rfl | (simp only [List.length_drop, List.length_take]; rfl)) ?_; (with_reducible refine (leb_LenS.calls a2 t188 _ A7.out).mono ?_); rintro e w' ⟨rfl, ⟨nd, rfl⟩⟩; refine ⟨_, rfl, ?_⟩))
    go_ret
    exact ⟨by first | rfl | (simp [errW_none, errW_some] <;> rfl) | (simp only [← hji5, ← hji6]; first | rfl | (simp [errW_none, errW_some] <;> rfl)) | (simp [*, errW_none, errW_some] <;> rfl), by repeat (first | (with_reducible first | exact HB.out | apply below_alloc | apply pw_below_drewN | apply below_drew1) | exact HB.out)⟩

/-- THE ONE PURE STATEMENT of avocetlaw01_LebLens: yours. -/
def avocetlaw01_LebLens.Pure : Prop := ∀ (a0 : Int) (a1 : Int) (a2 : Int), (Lit.int .u64 a0).wf = true → (Lit.int .u64 a1).wf = true → (Lit.int .i64 a2).wf = true → ∃ k, avocetlaw01_LebLens.f k a0 a1 a2 = some true
theorem avocetlaw01_LebLens.walk (P : avocetlaw01_LebLens.Pure) (a0 : Int) (a1 : Int) (a2 : Int) (w : World) (w0 : (Lit.int .u64 a0).wf = true) (w1 : (Lit.int .u64 a1).wf = true) (w2 : (Lit.int .i64 a2).wf = true) :
    Calls Try.prog 4 #[.int .u64 a0, .int .u64 a1, .int .i64 a2] w fun e w' => e = .returned (.bool true) ∧ Below w.heap.size w w' := by
  obtain ⟨k, h⟩ := P a0 a1 a2 w0 w1 w2
  refine (avocetlaw01_LebLens.calls k a0 a1 a2 true w h).mono ?_
  rintro e w' ⟨rfl, hd⟩
  exact ⟨rfl, hd⟩

-- NOT PRINTED: function 27 (leb_taker)

/-! ### leb_read: function 25 -/
def lebR_TK (w0 W : World) (Ba Bp Bb : Nat) (A : Option Addr) (n c : Nat) (at_ : Int) : Prop :=
  Below w0.heap.size w0 W ∧ w0.heap.size ≤ Ba ∧ Ba ≠ Bp ∧ Ba ≠ Bb ∧ W.heap[Ba]? = some (.cells #[.int .i64 at_] 3 (0, 0)) ∧ W.heap[Bp]? = some (.cells #[.pointer (some ⟨Ba, 0, none⟩)] 51 (0, 0)) ∧ W.heap[Bb]? = some (.cells #[.slice A n c] 22 (0, 0))
theorem lebR_TK.drewN {w0 W : World} {Ba Bp Bb : Nat} {A : Option Addr} {n c : Nat} {x : Int} (h : lebR_TK w0 W Ba Bp Bb A n c x) (m : Nat) : lebR_TK w0 (W.drewN m) Ba Bp Bb A n c x :=
  ⟨pw_below_drewN h.1 m, h.2.1, h.2.2.1, h.2.2.2.1, h.2.2.2.2.1, h.2.2.2.2.2.1, h.2.2.2.2.2.2⟩
theorem lebR_TK.set {w0 W : World} {Ba Bp Bb : Nat} {A : Option Addr} {n c : Nat} {x : Int} (h : lebR_TK w0 W Ba Bp Bb A n c x) (y : Int) : lebR_TK w0 (W.setCell ⟨Ba, 0, none⟩ (.int .i64 y)) Ba Bp Bb A n c y :=
  ⟨h.1.setCell h.2.1 _, h.2.1, h.2.2.1, h.2.2.2.1, one_setCell h.2.2.2.2.1, (Below.heap_setCell W ⟨Ba, 0, none⟩ _ Bp (by have := h.2.2.1; simpa using this.symm)).trans h.2.2.2.2.2.1, (Below.heap_setCell W ⟨Ba, 0, none⟩ _ Bb (by have := h.2.2.2.1; simpa using this.symm)).trans h.2.2.2.2.2.2⟩
set_option maxHeartbeats 8000000 in
set_option maxRecDepth 100000 in
theorem lebR_taker1_yes (w0 w : World) (Ba Bp Bb : Nat) (A : Option Addr) (c : Nat) (l : List Int) (x : Int) (hT : lebR_TK w0 w Ba Bp Bb A l.length c x) (hr : Kd.C (Kd.int .u8) w0 A l.length l) (h0 : 0 ≤ x) (h1 : x < l.length) :
    Calls Try.prog 28 #[.pointer (some ⟨Bp, 0, none⟩), .pointer (some ⟨Bb, 0, none⟩)] w fun e w' => e = .returned (.tuple #[.int .u8 (rd l x), .int .i64 0]) ∧ lebR_TK w0 w' Ba Bp Bb A l.length c (x + 1) := by
  have HT := Aside0.mk hT
  have cA := cell_of_one hT.2.2.2.2.1
  have cP := cell_of_one hT.2.2.2.2.2.1
  have cB := cell_of_one hT.2.2.2.2.2.2
  have fA := free_of_one hT.2.2.2.2.1
  have hlen := hr.2.1
  obtain ⟨ad, e1, hx⟩ := Kd.at_int hr x h0 h1
  cases e1
  replace hx := (hT.1.cell (World.block_lt_of_cell? w0 _ hx)).trans hx
  clear hT hr
  have p := eq_true h0
  have q := eq_true h1
  have d1 : decide ((l.length : Int) ≤ x) = false := decide_eq_false (by omega)
  go_enter Try.func28, Try.ntmps28
  go_wp2
  go_quiet (fail)
  go_wp2
  go_quiet (fail)
  go_wp2
  go_ret2
  exact ⟨rfl, (HT.out.drewN _).set _⟩
set_option maxHeartbeats 8000000 in
set_option maxRecDepth 100000 in
theorem lebR_taker1_no (w0 w : World) (Ba Bp Bb : Nat) (A : Option Addr) (n c : Nat) (x : Int) (hT : lebR_TK w0 w Ba Bp Bb A n c x) (h1 : (n : Int) ≤ x) :
    Calls Try.prog 28 #[.pointer (some ⟨Bp, 0, none⟩), .pointer (some ⟨Bb, 0, none⟩)] w fun e w' => e = .returned (.tuple #[.int .u8 0, .int .i64 2]) ∧ lebR_TK w0 w' Ba Bp Bb A n c x := by
  have HT := Aside0.mk hT
  have cA := cell_of_one hT.2.2.2.2.1
  have cP := cell_of_one hT.2.2.2.2.2.1
  have cB := cell_of_one hT.2.2.2.2.2.2
  clear hT
  have d1 : decide ((n : Int) ≤ x) = true := decide_eq_true (by omega)
  go_enter Try.func28, Try.ntmps28
  go_wp2
  go_quiet (fail)
  go_wp2
  go_ret2
  exact ⟨rfl, (HT.out.drewN _)⟩
set_option maxHeartbeats 8000000 in
set_option maxRecDepth 100000 in
theorem lebR_taker_any (w : World) (A : Option Addr) (n c : Nat) (p : Addr) :
    Calls Try.prog 27 #[.slice A n c, .pointer (some p)] w fun e w' => e = .returned (.func (Fn.func 28) #[] #[.pointer (some ⟨w.heap.size + 1, 0, none⟩), .pointer (some ⟨w.heap.size, 0, none⟩)]) ∧ (w.alloc (.cells #[.slice A n c] 22)).alloc (.cells #[.pointer (some p)] 51) = w' := by
  go_enter Try.func27, Try.ntmps27
  go_wp2
  go_ret
  exact ⟨rfl, rfl⟩
theorem lebR_TK.start (w : World) (A : Option Addr) (n c : Nat) (x : Int) : lebR_TK w (((w.alloc (Obj.cells #[Value.int IntKind.i64 x] 3)).alloc (Obj.cells #[Value.slice A n c] 22)).alloc (Obj.cells #[Value.pointer (some { block := w.heap.size, off := 0 })] 51)) w.heap.size (w.heap.size + 1 + 1) (w.heap.size + 1) A n c x := by
  refine ⟨below_alloc (below_alloc (below_alloc (Below.refl _ _) _) _) _, Nat.le_refl _, by omega, by omega, ?_, ?_, ?_⟩
  · rw [heap_alloc_old _ _ (by simp; omega), heap_alloc_old _ _ (by simp)]; exact heap_alloc_new _ _
  · simpa using heap_alloc_new ((w.alloc (Obj.cells #[Value.int IntKind.i64 x] 3)).alloc (Obj.cells #[Value.slice A n c] 22)) (Obj.cells #[Value.pointer (some { block := w.heap.size, off := 0 })] 51)
  · rw [heap_alloc_old _ _ (by simp)]; simpa using heap_alloc_new (w.alloc (Obj.cells #[Value.int IntKind.i64 x] 3)) (Obj.cells #[Value.slice A n c] 22)
def leb_read.l0 : Nat → List Int → Int → Int → Int → Int → Option (Int × Int × Int × Int × Int)
  | 0, _, _, _, _, _ => none
  | k + 1, l, m, x, v, n =>
    if x < (l.length : Int) then
      (if rd l x < 128 then some (bits .or .u64 v (IntKind.u64.wrap (IntKind.u64.wrap (bits .and .u8 (rd l x) 127) * 2 ^ (7 * n).toNat)), 7 * (n + 1), rd l x, x + 1, 0)
       else (if n + 1 = m then some (0, 0, 0, 0, 3) else leb_read.l0 k l m (x + 1) (bits .or .u64 v (IntKind.u64.wrap (IntKind.u64.wrap (bits .and .u8 (rd l x) 127) * 2 ^ (7 * n).toNat))) (n + 1)))
    else some (0, 0, 0, 0, 2)
def leb_read.f (l0 : List Int) (a1 a2 : Int) : Option (Int × Int × Int × Int × Int) :=
  if 1 ≤ a2 ∧ a2 ≤ 64 ∧ 0 ≤ a1 ∧ a1 ≤ (l0.length : Int) then leb_read.l0 11 l0 ((a2 + 7 - 1) / 7) a1 0 0 else some (0, 0, 0, 0, 1)
set_option maxHeartbeats 8000000 in
set_option maxRecDepth 100000 in
theorem leb_read.calls (A0 : Option Addr) (c0 : Nat) (l0 : List Int) (a1 a2 r1 r2 r3 r4 r5 : Int) (w : World) (hr0 : Kd.C (Kd.int .u8) w A0 l0.length l0) (hc0 : l0.length ≤ c0) (h : leb_read.f l0 a1 a2 = some (r1, r2, r3, r4, r5)) :
    Calls Try.prog 25 #[.slice A0 l0.length c0, .int .i64 a1, .int .i64 a2] w fun e w' => e = .returned (.tuple #[.int .u64 r1, .int .i64 r2, .int .u8 r3, .int .i64 r4, .int .i64 r5]) ∧ Below w.heap.size w w' := by
  have HR0 := Aside0.mk hr0
  have hlen := hr0.2.1
  clear hr0 hc0
  unfold leb_read.f at h
  by_cases hb : 1 ≤ a2 ∧ a2 ≤ 64 ∧ 0 ≤ a1 ∧ a1 ≤ (l0.length : Int)
  · rw [if_pos hb] at h
    have H := Aside0.mk h
    clear h
    obtain ⟨h3, h4, h1, h2⟩ := hb
    have d1 : decide (a2 < 1) = false := decide_eq_false (by omega)
    have d2 : decide (64 < a2) = false := decide_eq_false (by omega)
    have d3 : decide (a1 < 0) = false := decide_eq_false (by omega)
    have d4 : decide ((l0.length : Int) < a1) = false := decide_eq_false (by omega)
    go_enter Try.func25, Try.ntmps25
    go_wp2_with (go_at_call 27; refine (lebR_taker_any _ _ _ _ _).mono ?_; rintro e w' ⟨rfl, rfl⟩)
    go_loopg [13, 14] 11 (fun kq v13 v14 w' => ∃ (x13 x14 x : Int), v13 = .int .u64 x13 ∧ v14 = .int .i64 x14 ∧ 0 ≤ x14 ∧ x14 < 10 ∧ Aside0 (x14 < (a2 + 7 - 1) / 7) ∧ Aside0 (leb_read.l0 kq l0 ((a2 + 7 - 1) / 7) x x13 x14 = some (r1, r2, r3, r4, r5)) ∧ Aside0 (0 ≤ x) ∧ Aside0 (lebR_TK w w' w.heap.size (w.heap.size + 1 + 1) (w.heap.size + 1) A0 l0.length c0 x))
    case atStart => exact ⟨0, 0, a1, rfl, rfl, by omega, by omega, ⟨by omega⟩, H, ⟨h1⟩, ⟨lebR_TK.start _ _ _ _ _⟩⟩
    case round =>
      clear H
      obtain ⟨x13, x14, x, rfl, rfl, g0, g1, G2, H, HX, HT⟩ := hrel
      cases gk with
      | zero => exact absurd H.out (by simp [leb_read.l0])
      | succ k1 =>
        have H0 := H.out
        clear H
        simp only [leb_read.l0] at H0
        by_cases cx : x < l0.length
        · rw [if_pos cx] at H0
          have HCX := Aside0.mk cx
          clear cx
          by_cases c1 : rd l0 x < 128
          · rw [if_pos c1] at H0
            have H := Aside0.mk H0
            clear H0
            go_wp2_with (go_at_call 28; refine (lebR_taker1_yes w _ _ _ _ _ _ l0 x HT.out HR0.out HX.out HCX.out).mono ?_; rintro e w1 ⟨rfl, HT1⟩; have cA := cell_of_one HT1.2.2.2.2.1; have HT1 := Aside0.mk HT1)
            go_quiet (fail)
            go_wp2
            have H := H.out
            simp only [Option.some.injEq, Prod.mk.injEq] at H
            obtain ⟨rfl, rfl, rfl, rfl, rfl⟩ := H
            exact bodyPost_ret (v := .tuple #[.int .u64 _, .int .i64 _, .int .u8 _, .int .i64 _, .int .i64 _]) (by simp [results, Try.results25, go_sem]) rfl ⟨rfl, pw_below_drewN HT1.out.1 _⟩
          · rw [if_neg c1] at H0
            by_cases c2 : x14 + 1 = (a2 + 7 - 1) / 7
            · rw [if_pos c2] at H0
              have H := Aside0.mk H0
              clear H0
              have e2 : (x14 + 1 == (a2 + 7 - 1) / 7) = true := beq_iff_eq.mpr c2
              clear c2
              go_wp2_with (go_at_call 28; refine (lebR_taker1_yes w _ _ _ _ _ _ l0 x HT.out HR0.out HX.out HCX.out).mono ?_; rintro e w1 ⟨rfl, HT1⟩; have HT1 := Aside0.mk HT1)
              have H := H.out
              simp only [Option.some.injEq, Prod.mk.injEq] at H
              obtain ⟨rfl, rfl, rfl, rfl, rfl⟩ := H
              exact bodyPost_ret (v := .tuple #[.int .u64 0, .int .i64 0, .int .u8 0, .int .i64 0, .int .i64 _]) (by simp [results, Try.results25, go_sem]) rfl ⟨rfl, HT1.out.1⟩
            · rw [if_neg c2] at H0
              have H := Aside0.mk H0
              clear H0
              have e2 : (x14 + 1 == (a2 + 7 - 1) / 7) = false := beq_eq_false_iff_ne.mpr c2
              have G3 : Aside0 (x14 + 1 < (a2 + 7 - 1) / 7) := ⟨by have := G2.out; omega⟩
              clear c2
              go_wp2_with (go_at_call 28; refine (lebR_taker1_yes w _ _ _ _ _ _ l0 x HT.out HR0.out HX.out HCX.out).mono ?_; rintro e w1 ⟨rfl, HT1⟩; have HT1 := Aside0.mk HT1)
              go_roundg k1
              case measure => omega
              case rel => exact ⟨_, x14 + 1, x + 1, rfl, rfl, by omega, by have := G3.out; omega, G3, H, ⟨by have := HX.out; omega⟩, HT1⟩
        · rw [if_neg cx] at H0
          have HCX := Aside0.mk cx
          clear cx
          have H := Aside0.mk H0
          clear H0
          go_wp2_with (go_at_call 28; refine (lebR_taker1_no w _ _ _ _ _ _ _ x HT.out (by have := HCX.out; omega)).mono ?_; rintro e w1 ⟨rfl, HT1⟩; have HT1 := Aside0.mk HT1)
          have H := H.out
          simp only [Option.some.injEq, Prod.mk.injEq] at H
          obtain ⟨rfl, rfl, rfl, rfl, rfl⟩ := H
          exact bodyPost_ret (v := .tuple #[.int .u64 0, .int .i64 0, .int .u8 0, .int .i64 0, .int .i64 _]) (by simp [results, Try.results25, go_sem]) rfl ⟨rfl, HT1.out.1⟩
  · rw [if_neg hb] at h
    simp only [Option.some.injEq, Prod.mk.injEq] at h
    obtain ⟨rfl, rfl, rfl, rfl, rfl⟩ := h
    by_cases h1 : a2 < 1
    · have d1 : decide (a2 < 1) = true := decide_eq_true h1
      clear hb
      go_enter Try.func25, Try.ntmps25
      go_wp2
      exact bodyPost_ret (v := .tuple #[.int .u64 0, .int .i64 0, .int .u8 0, .int .i64 0, .int .i64 1]) (by simp [results, Try.results25, go_sem]) rfl ⟨rfl, below_alloc (Below.refl _ _) _⟩
    · have d1 : decide (a2 < 1) = false := decide_eq_false h1
      by_cases h2 : 64 < a2
      · have d2 : decide (64 < a2) = true := decide_eq_true h2
        clear hb
        go_enter Try.func25, Try.ntmps25
        go_wp2
        exact bodyPost_ret (v := .tuple #[.int .u64 0, .int .i64 0, .int .u8 0, .int .i64 0, .int .i64 1]) (by simp [results, Try.results25, go_sem]) rfl ⟨rfl, below_alloc (Below.refl _ _) _⟩
      · have d2 : decide (64 < a2) = false := decide_eq_false h2
        by_cases h3 : a1 < 0
        · have d3 : decide (a1 < 0) = true := decide_eq_true h3
          clear hb
          go_enter Try.func25, Try.ntmps25
          go_wp2
          exact bodyPost_ret (v := .tuple #[.int .u64 0, .int .i64 0, .int .u8 0, .int .i64 0, .int .i64 1]) (by simp [results, Try.results25, go_sem]) rfl ⟨rfl, below_alloc (Below.refl _ _) _⟩
        · have d3 : decide (a1 < 0) = false := decide_eq_false h3
          have d4 : decide ((l0.length : Int) < a1) = true := decide_eq_true (by omega)
          clear hb
          go_enter Try.func25, Try.ntmps25
          go_wp2
          exact bodyPost_ret (v := .tuple #[.int .u64 0, .int .i64 0, .int .u8 0, .int .i64 0, .int .i64 1]) (by simp [results, Try.results25, go_sem]) rfl ⟨rfl, below_alloc (Below.refl _ _) _⟩

/-! ### leb_ReadU: function 19 -/
def leb_ReadU.f (l0 : List Int) (a1 : Int) (a2 : Int) : Option (Int × Int × Int) := (leb_read.f l0 a1 a2).bind fun bt194 => (if bt194.2.2.2.2 = 0 then (if bt194.2.1 > a2 then (if 0 ≤ (wrap64 (7 - (wrap64 (bt194.2.1 - a2)))) then (if (shr .u8 bt194.2.2.1 (wrap64 (7 - (wrap64 (bt194.2.1 - a2))))) = 0 then (some (bt194.1, bt194.2.2.2.1, 0)) else (some (0, 0, 3))) else (none)) else (some (bt194.1, bt194.2.2.2.1, 0))) else (some (0, 0, bt194.2.2.2.2)))
set_option maxHeartbeats 8000000 in
set_option maxRecDepth 100000 in
theorem leb_ReadU.calls (A0 : Option Addr) (c0 : Nat) (l0 : List Int) (a1 : Int) (a2 : Int) (r1 : Int) (r2 : Int) (r3 : Int) (w : World) (hr0 : Kd.C (Kd.int .u8) w A0 l0.length l0) (hc0 : l0.length ≤ c0) (h : leb_ReadU.f l0 a1 a2 = some (r1, r2, r3)) :
    Calls Try.prog 19 #[.slice A0 l0.length c0, .int .i64 a1, .int .i64 a2] w fun e w' => e = .returned (.tuple #[.int .u64 r1, .int .i64 r2, .int .i64 r3]) ∧ Below w.heap.size w w' := by
  have HR0 := Aside0.mk hr0
  have HC0 := Aside0.mk hc0
  clear hr0 hc0
  have HB := Aside0.mk (Below.refl w.heap.size w)
  have H : ((leb_read.f l0 a1 a2).bind fun bt194 => (if bt194.2.2.2.2 = 0 then (if bt194.2.1 > a2 then (if 0 ≤ (wrap64 (7 - (wrap64 (bt194.2.1 - a2)))) then (if (shr .u8 bt194.2.2.1 (wrap64 (7 - (wrap64 (bt194.2.1 - a2))))) = 0 then (some (bt194.1, bt194.2.2.2.1, 0)) else (some (0, 0, 3))) else (none)) else (some (bt194.1, bt194.2.2.2.1, 0))) else (some (0, 0, bt194.2.2.2.2)))) = some (r1, r2, r3) := h
  clear h
  replace H := Option.bind_eq_some_iff.mp H
  obtain ⟨⟨t194, t195, t196, t197, t198⟩, A40, H⟩ := H
  replace H : (if t198 = 0 then (if t195 > a2 then (if 0 ≤ (wrap64 (7 - (wrap64 (t195 - a2)))) then (if (shr .u8 t196 (wrap64 (7 - (wrap64 (t195 - a2))))) = 0 then (some (t194, t197, 0)) else (some (0, 0, 3))) else (none)) else (some (t194, t197, 0))) else (some (0, 0, t198))) = some (r1, r2, r3) := H
  have A4 := Aside0.mk A40
  clear A40
  by_cases c5 : t198 = 0
  · rw [if_pos c5] at H
    have c5b0 : (t198 == 0) = true := beq_iff_eq.mpr c5
    have c5b1 : (t198 != 0) = false := bne_eq_false_iff_eq.mpr c5
    clear c5
    by_cases c6 : t195 > a2
    · rw [if_pos c6] at H
      have c6b0 : decide (a2 < t195) = true := decide_eq_true c6
      clear c6
      obtain ⟨ji7, hji7⟩ : ∃ j_ : Int, (wrap64 (7 - (wrap64 (t195 - a2)))) = j_ := ⟨_, rfl⟩
      replace H : (if 0 ≤ (ji7) then (if (shr .u8 t196 (ji7)) = 0 then (some (t194, t197, 0)) else (some (0, 0, 3))) else (none)) = some (r1, r2, r3) := by first | (rw [hji7] at H; exact H) | (simp only [hji7] at H ⊢; exact H)
      (try rw [hji7] at A4)
      have hji7w : (IntKind.i64.wrap (7 - (wrap64 (t195 - a2)))) = ji7 := (i64_w _).trans hji7
      by_cases c8 : 0 ≤ (ji7)
      · rw [if_pos c8] at H
        have c8b0 := eq_true c8
        have c8b1 : decide (0 ≤ (ji7)) = true := decide_eq_true c8
        clear c8
        obtain ⟨ji9, hji9⟩ : ∃ j_ : Int, (shr .u8 t196 (ji7)) = j_ := ⟨_, rfl⟩
        replace H : (if (ji9) = 0 then (some (t194, t197, 0)) else (some (0, 0, 3))) = some (r1, r2, r3) := by first | (rw [hji9] at H; exact H) | (simp only [hji9] at H ⊢; exact H)
        (try rw [hji9] at A4)
        have hji9_ : (t196 / 2 ^ min (ji7).toNat 8) = ji9 := hji9
        have hji9z : (ji7) ≤ 8 → (t196 / 2 ^ (ji7).toNat) = ji9 := shr_small hji9
        by_cases c10 : (ji9) = 0
        · rw [if_pos c10] at H
          have c10b0 : ((ji9) == 0) = true := beq_iff_eq.mpr c10
          have c10b1 : ((ji9) != 0) = false := bne_eq_false_iff_eq.mpr c10
          clear c10
          simp only [Option.some.injEq, Prod.mk.injEq] at H
          obtain ⟨rfl, rfl, rfl⟩ := H
          go_enter Try.func19, Try.ntmps19
          go_wp2_with (first | ((with_reducible refine gate_callee (f := 25) rfl ?_); refine goesL_ (some 18) rfl rfl Try.func25 (by kernel_rfl) rfl #[.slice A0 l0.length c0, .int .i64 a1, .int .i64 a2] rfl (by (try simp only [List.map_toArray, List.map_cons, List.map_nil]); first | done | rfl | (simp only [List.length_drop, List.length_take]; rfl)) ?_; (with_reducible refine (leb_read.calls _ _ l0 a1 a2 t194 t195 t196 t197 t198 _ ?side1 ?side2 A4.out).mono ?_); (case side1 => repeat (first | exact HR0.out | (with_reducible refine Kd.C_alloc ?_ _) | (with_reducible refine Kd.C_drewN ?_ _) | (with_reducible refine Kd.C_drew ?_))); (case side2 => exact HC0.out); rintro e w11 ⟨rfl, hb⟩; refine ⟨_, rfl, ?_⟩; have n0_ := Aside0.mk (below_step (by repeat (first | (with_reducible first | exact HB.out | apply below_alloc | apply pw_below_drewN | apply below_drew1) | exact HB.out)) hb); clear HB; have HB := n0_; clear n0_; (try clear hb); (try clear hb2); (try clear hk); (try clear hi)))
          go_ret3
          exact ⟨by first | rfl | (simp [errW_none, errW_some] <;> rfl) | (simp only [← hji7, ← hji9]; first | rfl | (simp [errW_none, errW_some] <;> rfl)) | (simp [*, errW_none, errW_some] <;> rfl), by repeat (first | (with_reducible first | exact HB.out | apply below_alloc | apply pw_below_drewN | apply below_drew1) | exact HB.out)⟩
        · rw [if_neg c10] at H
          have c10b0 : ((ji9) == 0) = false := beq_eq_false_iff_ne.mpr c10
          have c10b1 : ((ji9) != 0) = true := bne_iff_ne.mpr c10
          simp only [Option.some.injEq, Prod.mk.injEq] at H
          obtain ⟨rfl, rfl, rfl⟩ := H
          go_enter Try.func19, Try.ntmps19
          go_wp2_with (first | ((with_reducible refine gate_callee (f := 25) rfl ?_); refine goesL_ (some 18) rfl rfl Try.func25 (by kernel_rfl) rfl #[.slice A0 l0.length c0, .int .i64 a1, .int .i64 a2] rfl (by (try simp only [List.map_toArray, List.map_cons, List.map_nil]); first | done | rfl | (simp only [List.length_drop, List.length_take]; rfl)) ?_; (with_reducible refine (leb_read.calls _ _ l0 a1 a2 t194 t195 t196 t197 t198 _ ?side1 ?side2 A4.out).mono ?_); (case side1 => repeat (first | exact HR0.out | (with_reducible refine Kd.C_alloc ?_ _) | (with_reducible refine Kd.C_drewN ?_ _) | (with_reducible refine Kd.C_drew ?_))); (case side2 => exact HC0.out); rintro e w12 ⟨rfl, hb⟩; refine ⟨_, rfl, ?_⟩; have n0_ := Aside0.mk (below_step (by repeat (first | (with_reducible first | exact HB.out | apply below_alloc | apply pw_below_drewN | apply below_drew1) | exact HB.out)) hb); clear HB; have HB := n0_; clear n0_; (try clear hb); (try clear hb2); (try clear hk); (try clear hi)))
          go_ret3
          exact ⟨by first | rfl | (simp [errW_none, errW_some] <;> rfl) | (simp only [← hji7, ← hji9]; first | rfl | (simp [errW_none, errW_some] <;> rfl)) | (simp [*, errW_none, errW_some] <;> rfl), by repeat (first | (with_reducible first | exact HB.out | apply below_alloc | apply pw_below_drewN | apply below_drew1) | exact HB.out)⟩
      · rw [if_neg c8] at H
        exact absurd H (by simp)
    · rw [if_neg c6] at H
      have c6b0 : decide (a2 < t195) = false := decide_eq_false c6
      clear c6
      simp only [Option.some.injEq, Prod.mk.injEq] at H
      obtain ⟨rfl, rfl, rfl⟩ := H
      go_enter Try.func19, Try.ntmps19
      go_wp2_with (first | ((with_reducible refine gate_callee (f := 25) rfl ?_); refine goesL_ (some 18) rfl rfl Try.func25 (by kernel_rfl) rfl #[.slice A0 l0.length c0, .int .i64 a1, .int .i64 a2] rfl (by (try simp only [List.map_toArray, List.map_cons, List.map_nil]); first | done | rfl | (simp only [List.length_drop, List.length_take]; rfl)) ?_; (with_reducible refine (leb_read.calls _ _ l0 a1 a2 t194 t195 t196 t197 t198 _ ?side1 ?side2 A4.out).mono ?_); (case side1 => repeat (first | exact HR0.out | (with_reducible refine Kd.C_alloc ?_ _) | (with_reducible refine Kd.C_drewN ?_ _) | (with_reducible refine Kd.C_drew ?_))); (case side2 => exact HC0.out); rintro e w13 ⟨rfl, hb⟩; refine ⟨_, rfl, ?_⟩; have n0_ := Aside0.mk (below_step (by repeat (first | (with_reducible first | exact HB.out | apply below_alloc | apply pw_below_drewN | apply below_drew1) | exact HB.out)) hb); clear HB; have HB := n0_; clear n0_; (try clear hb); (try clear hb2); (try clear hk); (try clear hi)))
      go_ret3
      exact ⟨by first | rfl | (simp [errW_none, errW_some] <;> rfl) | (simp [*, errW_none, errW_some] <;> rfl), by repeat (first | (with_reducible first | exact HB.out | apply below_alloc | apply pw_below_drewN | apply below_drew1) | exact HB.out)⟩
  · rw [if_neg c5] at H
    have c5b0 : (t198 == 0) = false := beq_eq_false_iff_ne.mpr c5
    have c5b1 : (t198 != 0) = true := bne_iff_ne.mpr c5
    simp only [Option.some.injEq, Prod.mk.injEq] at H
    obtain ⟨rfl, rfl, rfl⟩ := H
    go_enter Try.func19, Try.ntmps19
    go_wp2_with (first | ((with_reducible refine gate_callee (f := 25) rfl ?_); refine goesL_ (some 18) rfl rfl Try.func25 (by kernel_rfl) rfl #[.slice A0 l0.length c0, .int .i64 a1, .int .i64 a2] rfl (by (try simp only [List.map_toArray, List.map_cons, List.map_nil]); first | done | rfl | (simp only [List.length_drop, List.length_take]; rfl)) ?_; (with_reducible refine (leb_read.calls _ _ l0 a1 a2 t194 t195 t196 t197 t198 _ ?side1 ?side2 A4.out).mono ?_); (case side1 => repeat (first | exact HR0.out | (with_reducible refine Kd.C_alloc ?_ _) | (with_reducible refine Kd.C_drewN ?_ _) | (with_reducible refine Kd.C_drew ?_))); (case side2 => exact HC0.out); rintro e w14 ⟨rfl, hb⟩; refine ⟨_, rfl, ?_⟩; have n0_ := Aside0.mk (below_step (by repeat (first | (with_reducible first | exact HB.out | apply below_alloc | apply pw_below_drewN | apply below_drew1) | exact HB.out)) hb); clear HB; have HB := n0_; clear n0_; (try clear hb); (try clear hb2); (try clear hk); (try clear hi)))
    go_ret3
    exact ⟨by first | rfl | (simp [errW_none, errW_some] <;> rfl) | (simp [*, errW_none, errW_some] <;> rfl), by repeat (first | (with_reducible first | exact HB.out | apply below_alloc | apply pw_below_drewN | apply below_drew1) | exact HB.out)⟩

/-! ### avocetlaw01_LebLong: function 5 -/
def avocetlaw01_LebLong.l0 : Nat → Int → Bool → List Int → Int → Int → Option (Bool)
  | 0, _, _, _, _, _ => none
  | k + 1, x0, x5, x6, x7, x8 => if x8 < x7 then (if 0 ≤ (wrap64 ((x6.length : Int) - 1)) then (if (wrap64 ((x6.length : Int) - 1)) < (x6.length : Int) then ((some (x6.set ((wrap64 ((x6.length : Int) - 1)) : Int).toNat (Go.bits .or .u8 (rd x6 (wrap64 ((x6.length : Int) - 1))) 128) : List Int)).bind fun y204 => (if y204.length < 140737488355328 then (avocetlaw01_LebLong.l0 k x0 x5 (y204 ++ [0]) x7 (wrap64 (x8 + 1))) else (none))) else (none)) else (none)) else ((leb_ReadU.f x6 0 64).bind fun bt208 => (if (x6.length : Int) > 10 then (if x5 = true then (some (bt208.2.2 == 3)) else (some false)) else (if x5 = true then (if bt208.2.2 = 0 then (if bt208.1 = x0 then (some (bt208.2.1 == (x6.length : Int))) else (some false)) else (some false)) else (some false))))
def avocetlaw01_LebLong.f (k : Nat) (a0 : Int) (a1 : Int) : Option (Bool) := (avocetlaw01_awake.f k).bind fun t199 => ((leb_U.f k ([] : List Int) a0).bind fun t200 => (if (t200.length : Int) = 0 then (some false) else (avocetlaw01_LebLong.l0 k a0 t199 t200 (Go.bits .and .i64 a1 15) 0)))
theorem avocetlaw01_LebLong.mono_l : ∀ k, (∀ y0 y1 y2 y3 y4, LeO (avocetlaw01_LebLong.l0 k y0 y1 y2 y3 y4) (avocetlaw01_LebLong.l0 (k + 1) y0 y1 y2 y3 y4))
  | 0 => fun _ _ _ _ _ r h => by simp [avocetlaw01_LebLong.l0] at h
  | k + 1 => by
    have ih0 := avocetlaw01_LebLong.mono_l k
    · intro y0 y1 y2 y3 y4
      unfold avocetlaw01_LebLong.l0
      repeat' first
      | (with_reducible exact ih0 _ _ _ _ _)
      | (with_reducible exact avocetlaw01_awake.mono _)
      | (with_reducible exact leb_U.mono _ _ _)
      | (with_reducible exact LeO.refl _)
      | (with_reducible exact LeO.none _)
      | (with_reducible refine LeO.ite ?_ ?_)
      | (with_reducible refine LeO.bind ?_ (fun _ => ?_))
      | exact ih0 _ _ _ _ _
      | exact avocetlaw01_awake.mono _
      | exact leb_U.mono _ _ _
      | exact LeO.none _
      | refine LeO.ite ?_ ?_
      | refine LeO.bind ?_ (fun _ => ?_)
theorem avocetlaw01_LebLong.mono : ∀ a0 a1 k, LeO (avocetlaw01_LebLong.f k a0 a1) (avocetlaw01_LebLong.f (k + 1) a0 a1) := by
  intro a0 a1 k
  have ih0 := avocetlaw01_LebLong.mono_l k
  unfold avocetlaw01_LebLong.f
  repeat' first
      | (with_reducible exact ih0 _ _ _ _ _)
      | (with_reducible exact avocetlaw01_awake.mono _)
      | (with_reducible exact leb_U.mono _ _ _)
      | (with_reducible exact LeO.refl _)
      | (with_reducible exact LeO.none _)
      | (with_reducible refine LeO.ite ?_ ?_)
      | (with_reducible refine LeO.bind ?_ (fun _ => ?_))
      | exact ih0 _ _ _ _ _
      | exact avocetlaw01_awake.mono _
      | exact leb_U.mono _ _ _
      | exact LeO.none _
      | refine LeO.ite ?_ ?_
      | refine LeO.bind ?_ (fun _ => ?_)
set_option maxHeartbeats 8000000 in
set_option maxRecDepth 100000 in
theorem avocetlaw01_LebLong.calls (k : Nat) (a0 : Int) (a1 : Int) (r : Bool) (w : World) (h : avocetlaw01_LebLong.f k a0 a1 = some r) :
    Calls Try.prog 5 #[.int .u64 a0, .int .i64 a1] w fun e w' => e = .returned (.bool r) ∧ Below w.heap.size w w' := by
  have HB := Aside0.mk (Below.refl w.heap.size w)
  have H : ((avocetlaw01_awake.f k).bind fun t199 => ((leb_U.f k ([] : List Int) a0).bind fun t200 => (if (t200.length : Int) = 0 then (some false) else (avocetlaw01_LebLong.l0 k a0 t199 t200 (Go.bits .and .i64 a1 15) 0)))) = some r := h
  clear h
  replace H := Option.bind_eq_some_iff.mp H
  obtain ⟨t199, A30, H⟩ := H
  replace H : ((leb_U.f k ([] : List Int) a0).bind fun t200 => (if (t200.length : Int) = 0 then (some false) else (avocetlaw01_LebLong.l0 k a0 t199 t200 (Go.bits .and .i64 a1 15) 0))) = some r := H
  have A3 := Aside0.mk A30
  clear A30
  replace H := Option.bind_eq_some_iff.mp H
  obtain ⟨t200, A40, H⟩ := H
  replace H : (if (t200.length : Int) = 0 then (some false) else (avocetlaw01_LebLong.l0 k a0 t199 t200 (Go.bits .and .i64 a1 15) 0)) = some r := H
  have A4 := Aside0.mk A40
  clear A40
  by_cases c5 : (t200.length : Int) = 0
  · rw [if_pos c5] at H
    have c5b0 : ((t200.length : Int) == 0) = true := beq_iff_eq.mpr c5
    have c5b1 : ((t200.length : Int) != 0) = false := bne_eq_false_iff_eq.mpr c5
    clear c5
    obtain rfl := Option.some.inj H
    go_enter Try.func5, Try.ntmps5
    go_wp2_with (first | ((with_reducible refine gate_callee (f := 10) rfl ?_); refine goesL_ (some 12) rfl rfl Try.func10 (by kernel_rfl) rfl #[] rfl (by (try simp only [List.map_toArray, List.map_cons, List.map_nil]); first | done | rfl | (simp only [List.length_drop, List.length_take]; rfl)) ?_; (with_reducible refine (avocetlaw01_awake.calls k  t199 _ A3.out).mono ?_); rintro e w6 ⟨rfl, hb⟩; refine ⟨_, rfl, ?_⟩; have n0_ := Aside0.mk (below_step (by repeat (first | (with_reducible first | exact HB.out | apply below_alloc | apply pw_below_drewN | apply below_drew1) | exact HB.out)) hb); clear HB; have HB := n0_; clear n0_; (try clear hb); (try clear hb2); (try clear hk); (try clear hi)) | ((with_reducible refine gate_callee (f := 11) rfl ?_); refine goesL_ (some 14) rfl rfl Try.func11 (by kernel_rfl) rfl #[.slice none 0 0, .int .u64 a0] rfl (by (try simp only [List.map_toArray, List.map_cons, List.map_nil]); first | done | rfl | (simp only [List.length_drop, List.length_take]; rfl)) ?_; (refine (leb_U.calls k _ _ ([] : List Int) a0 t200 _ ?side1 ?side2 A4.out).mono ?_); (case side1 => exact Kd.C_nil _ _); (case side2 => exact Nat.le_refl _); rintro e w7 ⟨v201, rfl, ho0, hb⟩; refine ⟨_, rfl, ?_⟩; have n0_ := Aside0.mk (Kd.R_lower ho0 (below_size (by repeat (first | (with_reducible first | exact HB.out | apply below_alloc | apply pw_below_drewN | apply below_drew1) | exact HB.out)))); have n1_ := Aside0.mk (below_step (by repeat (first | (with_reducible first | exact HB.out | apply below_alloc | apply pw_below_drewN | apply below_drew1) | exact HB.out)) hb); clear HB; have HO202 := n0_; have HB := n1_; clear n0_ n1_; (try clear hb); (try clear hb2); (try clear hk); (try clear hi); (try clear ho0); obtain ⟨Ao8, co8, eo8⟩ := Kd.R_slice HO202.out; subst eo8))
    go_ret
    exact ⟨by first | rfl | (simp [errW_none, errW_some] <;> rfl) | (simp [*, errW_none, errW_some] <;> rfl), by repeat (first | (with_reducible first | exact HB.out | apply below_alloc | apply pw_below_drewN | apply below_drew1) | exact HB.out)⟩
  · rw [if_neg c5] at H
    have c5b0 : ((t200.length : Int) == 0) = false := beq_eq_false_iff_ne.mpr c5
    have c5b1 : ((t200.length : Int) != 0) = true := bne_iff_ne.mpr c5
    have c5b2 : ¬ (t200 = []) := fun h_ => c5 (by rw [h_]; rfl)
    have H' := Aside0.mk H
    clear H
    go_enter Try.func5, Try.ntmps5
    go_wp2_with (first | ((with_reducible refine gate_callee (f := 10) rfl ?_); refine goesL_ (some 12) rfl rfl Try.func10 (by kernel_rfl) rfl #[] rfl (by (try simp only [List.map_toArray, List.map_cons, List.map_nil]); first | done | rfl | (simp only [List.length_drop, List.length_take]; rfl)) ?_; (with_reducible refine (avocetlaw01_awake.calls k  t199 _ A3.out).mono ?_); rintro e w9 ⟨rfl, hb⟩; refine ⟨_, rfl, ?_⟩; have n0_ := Aside0.mk (below_step (by repeat (first | (with_reducible first | exact HB.out | apply below_alloc | apply pw_below_drewN | apply below_drew1) | exact HB.out)) hb); clear HB; have HB := n0_; clear n0_; (try clear hb); (try clear hb2); (try clear hk); (try clear hi)) | ((with_reducible refine gate_callee (f := 11) rfl ?_); refine goesL_ (some 14) rfl rfl Try.func11 (by kernel_rfl) rfl #[.slice none 0 0, .int .u64 a0] rfl (by (try simp only [List.map_toArray, List.map_cons, List.map_nil]); first | done | rfl | (simp only [List.length_drop, List.length_take]; rfl)) ?_; (refine (leb_U.calls k _ _ ([] : List Int) a0 t200 _ ?side1 ?side2 A4.out).mono ?_); (case side1 => exact Kd.C_nil _ _); (case side2 => exact Nat.le_refl _); rintro e w10 ⟨v201, rfl, ho0, hb⟩; refine ⟨_, rfl, ?_⟩; have n0_ := Aside0.mk (Kd.R_lower ho0 (below_size (by repeat (first | (with_reducible first | exact HB.out | apply below_alloc | apply pw_below_drewN | apply below_drew1) | exact HB.out)))); have n1_ := Aside0.mk (below_step (by repeat (first | (with_reducible first | exact HB.out | apply below_alloc | apply pw_below_drewN | apply below_drew1) | exact HB.out)) hb); clear HB; have HO202 := n0_; have HB := n1_; clear n0_ n1_; (try clear hb); (try clear hb2); (try clear hk); (try clear hi); (try clear ho0); obtain ⟨Ao11, co11, eo11⟩ := Kd.R_slice HO202.out; subst eo11))
    go_loopg [6, 8] k (fun kq v6 v8 w' => ∃ (x6_1 : List Int) (x8_1 : Int), v8 = .int .i64 x8_1 ∧ Aside0 (avocetlaw01_LebLong.l0 kq a0 t199 x6_1 (Go.bits .and .i64 a1 15) x8_1 = some r) ∧ Aside0 (kq ≤ k) ∧ Aside0 (Kd.R (Kd.int .u8) 5 w' w.heap.size (fun _ => True) v6 x6_1) ∧ Aside0 (Below w.heap.size w w'))
    case atStart => exact ⟨(t200), (0), (by first | rfl | (simp; done) | (simp [*]; done)), H', ⟨Nat.le_refl _⟩, ⟨by (with_reducible repeat (first | apply Kd.R_alloc | apply Kd.R_drewN | apply Kd.R_drew)); exact HO202.out⟩, ⟨by repeat (first | (with_reducible first | exact HB.out | apply below_alloc | apply pw_below_drewN | apply below_drew1) | exact HB.out)⟩⟩
    case round =>
      clear H'
      try clear c1
      try clear p2
      try clear c5
      try clear c5b0
      try clear c5b1
      try clear c5b2
      try clear c10
      try clear c11
      obtain ⟨x6_1, x8_1, rfl, HA, HK1, HO_6, HB⟩ := hrel
      cases gk with
      | zero => exact absurd HA.out (by simp [avocetlaw01_LebLong.l0])
      | succ k1 =>
        have H := HA.out
        clear HA
        simp only [avocetlaw01_LebLong.l0] at H
        by_cases c12 : x8_1 < (Go.bits .and .i64 a1 15)
        · rw [if_pos c12] at H
          have c12b0 : decide (x8_1 < (Go.bits .and .i64 a1 15)) = true := decide_eq_true c12
          clear c12
          obtain ⟨ji13, hji13⟩ : ∃ j_ : Int, (wrap64 ((x6_1.length : Int) - 1)) = j_ := ⟨_, rfl⟩
          replace H : (if 0 ≤ (ji13) then (if (ji13) < (x6_1.length : Int) then ((some (x6_1.set ((ji13) : Int).toNat (Go.bits .or .u8 (rd x6_1 (ji13)) 128) : List Int)).bind fun y204 => (if y204.length < 140737488355328 then (avocetlaw01_LebLong.l0 k1 a0 t199 (y204 ++ [0]) (Go.bits .and .i64 a1 15) (wrap64 (x8_1 + 1))) else (none))) else (none)) else (none)) = some r := by first | (rw [hji13] at H; exact H) | (simp only [hji13] at H ⊢; exact H)
          have hji13w : (IntKind.i64.wrap ((x6_1.length : Int) - 1)) = ji13 := (i64_w _).trans hji13
          by_cases c14 : 0 ≤ (ji13)
          · rw [if_pos c14] at H
            have c14b0 : decide (0 ≤ (ji13)) = true := decide_eq_true c14
            clear c14
            by_cases c15 : (ji13) < (x6_1.length : Int)
            · rw [if_pos c15] at H
              have c15b0 : decide ((ji13) < (x6_1.length : Int)) = true := decide_eq_true c15
              clear c15
              obtain ⟨y204, hy204⟩ : ∃ y_ : List Int, y_ = (x6_1.set ((ji13) : Int).toNat (Go.bits .or .u8 (rd x6_1 (ji13)) 128)) := ⟨_, rfl⟩
              replace H : (if y204.length < 140737488355328 then (avocetlaw01_LebLong.l0 k1 a0 t199 (y204 ++ [0]) (Go.bits .and .i64 a1 15) (wrap64 (x8_1 + 1))) else (none)) = some r := by first | (rw [hy204]; with_reducible exact H) | (have H2_ := (Option.bind_some _ _).symm.trans H; rw [hy204]; with_reducible exact H2_) | (have H2_ := (Option.bind_some _ _).symm.trans H; with_reducible exact H2_) | with_reducible exact H | (rw [hy204]; exact H) | exact H
              have Ny204 := Aside0.mk hy204
              clear hy204
              by_cases c17 : y204.length < 140737488355328
              · rw [if_pos c17] at H
                have LMc17 := Aside0.mk c17
                clear c17
                obtain ⟨y205, hy205⟩ : ∃ y_ : List Int, y_ = (y204 ++ [0]) := ⟨_, rfl⟩
                replace H : (avocetlaw01_LebLong.l0 k1 a0 t199 y205 (Go.bits .and .i64 a1 15) (wrap64 (x8_1 + 1))) = some r := by first | (rw [hy205]; with_reducible exact H) | (have H2_ := (Option.bind_some _ _).symm.trans H; rw [hy205]; with_reducible exact H2_) | (have H2_ := (Option.bind_some _ _).symm.trans H; with_reducible exact H2_) | with_reducible exact H | (rw [hy205]; exact H) | exact H
                have Ny205 := Aside0.mk hy205
                clear hy205
                have H' := Aside0.mk H
                clear H
                obtain ⟨Ao18, co18, eo18⟩ := Kd.R_slice HO_6.out
                subst eo18
                have p203 : 0 ≤ ((ji13) : Int) := of_decide_eq_true (by first | (with_reducible assumption) | assumption)
                have q203 : (ji13) < (x6_1.length : Int) := of_decide_eq_true (by first | (with_reducible assumption) | assumption)
                obtain ⟨ad203, e203, hx203_0⟩ := Kd.at_int (Kd.R_reads' HO_6.out).2.2 (ji13) p203 q203
                cases e203
                replace p203 := eq_true p203
                replace q203 := eq_true q203
                have p16 : 0 ≤ ((ji13) : Int) := of_decide_eq_true (by first | (with_reducible assumption) | assumption)
                have q16 : ((ji13) : Int) < ((x6_1.length : Int) : Int) := of_decide_eq_true (by first | (with_reducible assumption) | assumption)
                obtain ⟨go16, co16, eo16, gb16, gl16, cl16, HG16⟩ := Kd.R_form HO_6.out (by omega)
                (first | cases eo16 | (injection eo16 with ea_ en_ ec_; (first | subst ea_ | (injection ea_ with ea_; subst ea_)); subst ec_; clear en_))
                have GB16 := Aside0.mk gb16
                have GG16 := Aside0.mk HG16
                clear gb16 gl16 HG16
                (first | simp only [add_plain] at hx203_0 | skip)
                obtain ⟨hx16_0, hf16_0⟩ := Kd.R_celln 0 HO_6.out ((ji13) : Int) p16 q16
                replace p16 := eq_true p16
                replace q16 := eq_true q16
                have HP19 := Kd.R_putg HO_6.out ((ji13) : Int) (Go.bits .or .u8 (rd x6_1 (ji13)) 128)
                go_wp2_with (first | ((with_reducible refine gate_store (t := 5) (p := 36) rfl ?_); refine store_event (t := 5) (p := 36) (v := ?vo_w20) (w1 := (wr.setCell ⟨go16, ((ji13) : Int).toNat, none⟩ (.int .u8 (Go.bits .or .u8 (rd x6_1 (ji13)) 128)))) ?hg ?ho ?hn ?hr ?_; (case ho => rfl); (case hg => rfl); (case hn => rfl); (case hr => first | (go_simp; done) | (go_simp; rfl)); intro w20 hw; have hg : wr.grownBy w20 (some go16) := (by rw [hw]; exact HP19.2); have hp_ : Kd.R (Kd.int .u8) 5 w20 w.heap.size (fun _ => True) (.slice (some ⟨go16, 0, none⟩) x6_1.length co18) y204 := (by rw [hw, Ny204.out]; exact HP19.1); clear HP19; have n0_ := Aside0.mk (hp_); have n1_ := Aside0.mk ((by rw [hw]; exact below_set (HB.out) GB16.out : Below w.heap.size w w20)); clear HO_6; clear HB; have HO_6 := n0_; have HB := n1_; clear n0_ n1_; clear hg hw hp_) | ((with_reducible refine gate_builtin (b := .append) (xs := #[.tmp 37, .tmp 38]) rfl ?_); (try (refine gate_guard (by rfl) ?_; dsimp only)); at_builtin; refine Kd.R_append (Kd.int .u8) (w0 := w) w.heap.size rfl (.tmp 37) (.tmp 38) 22 5 (.int .u8 0) 1 rfl Try.underlying22 info5 rfl (by decide) (by omega) (.slice (some ⟨go16, 0, none⟩) x6_1.length co18) y204 0 [.int .u8 0] (fun _ => True) (fun _ => False) rfl rfl ?aP (fun _ hk => hk.elim) ?aF ?aO ?aB ?aS ?aL ?_; (case aP => exact rfl); (case aB => exact (by repeat (first | (with_reducible first | exact HB.out | apply below_alloc | apply pw_below_drewN | apply below_drew1) | exact HB.out))); (case aF => exact (fun _ _ => trivial)); (case aO => exact (by (with_reducible repeat (first | apply Kd.R_alloc | apply Kd.R_drewN | apply Kd.R_drew)); exact HO_6.out)); (case aS => exact (below_size (by repeat (first | (with_reducible first | exact HB.out | apply below_alloc | apply pw_below_drewN | apply below_drew1) | exact HB.out)))); (case aL => have := LMc17.out; omega); intro v206 w21 ho hb hg hat; rw [← Ny205.out] at ho; have n0_ := Aside0.mk (hb); have n1_ := Aside0.mk (ho); clear HB; clear HO_6; have HB := n0_; have HO207 := n1_; clear n0_ n1_; clear ho hb hg hat))
                go_roundg k1
                case measure => have := HK1.out; omega
                case rel => exact ⟨(y205), (wrap64 (x8_1 + 1)), (by first | rfl | (simp; done) | (simp [*]; done)), H', ⟨by have := HK1.out; omega⟩, ⟨by (with_reducible repeat (first | apply Kd.R_alloc | apply Kd.R_drewN | apply Kd.R_drew)); exact HO207.out⟩, ⟨by repeat (first | (with_reducible first | exact HB.out | apply below_alloc | apply pw_below_drewN | apply below_drew1) | exact HB.out)⟩⟩
              · rw [if_neg c17] at H
                exact absurd H (by simp)
            · rw [if_neg c15] at H
              exact absurd H (by simp)
          · rw [if_neg c14] at H
            exact absurd H (by simp)
        · rw [if_neg c12] at H
          have c12b0 : decide (x8_1 < (Go.bits .and .i64 a1 15)) = false := decide_eq_false c12
          clear c12
          replace H := Option.bind_eq_some_iff.mp H
          obtain ⟨⟨t208, t209, t210⟩, A220, H⟩ := H
          replace H : (if (x6_1.length : Int) > 10 then (if t199 = true then (some (t210 == 3)) else (some false)) else (if t199 = true then (if t210 = 0 then (if t208 = a0 then (some (t209 == (x6_1.length : Int))) else (some false)) else (some false)) else (some false))) = some r := H
          have A22 := Aside0.mk A220
          clear A220
          by_cases c23 : (x6_1.length : Int) > 10
          · rw [if_pos c23] at H
            have c23b0 : decide (10 < (x6_1.length : Int)) = true := decide_eq_true c23
            have c23b1 : decide (10 < x6_1.length) = true := decide_eq_true (by omega)
            clear c23
            by_cases c24 : t199 = true
            · subst c24
              have H1 : (some (t210 == 3)) = some r := by rw [if_pos rfl] at H; exact H
              clear H
              have H := H1
              clear H1
              obtain rfl := Option.some.inj H
              obtain ⟨Ao25, co25, eo25⟩ := Kd.R_slice HO_6.out
              subst eo25
              go_wp2_with (first | ((with_reducible refine gate_callee (f := 19) rfl ?_); refine goesL_ (some 42) rfl rfl Try.func19 (by kernel_rfl) rfl #[.slice Ao25 x6_1.length co25, .int .i64 0, .int .i64 64] rfl (by (try simp only [List.map_toArray, List.map_cons, List.map_nil]); first | done | rfl | (simp only [List.length_drop, List.length_take]; rfl)) ?_; (with_reducible refine (leb_ReadU.calls _ _ x6_1 0 64 t208 t209 t210 _ ?side1 ?side2 A22.out).mono ?_); (case side1 => repeat (first | exact (Kd.R_reads' HO_6.out).2.2 | (with_reducible refine Kd.C_alloc ?_ _) | (with_reducible refine Kd.C_drewN ?_ _) | (with_reducible refine Kd.C_drew ?_))); (case side2 => exact (Kd.R_reads' HO_6.out).2.1); rintro e w26 ⟨rfl, hb⟩; refine ⟨_, rfl, ?_⟩; have n0_ := Aside0.mk (Kd.R_below (by (with_reducible repeat (first | apply Kd.R_alloc | apply Kd.R_drewN | apply Kd.R_drew)); exact HO_6.out) hb); have n1_ := Aside0.mk (below_step (by repeat (first | (with_reducible first | exact HB.out | apply below_alloc | apply pw_below_drewN | apply below_drew1) | exact HB.out)) hb); clear HO_6; clear HB; have HO_6 := n0_; have HB := n1_; clear n0_ n1_; (try clear hb); (try clear hb2); (try clear hk); (try clear hi)))
              go_ret
              exact ⟨by first | rfl | (simp [errW_none, errW_some] <;> rfl) | (simp [*, errW_none, errW_some] <;> rfl), by repeat (first | (with_reducible first | exact HB.out | apply below_alloc | apply pw_below_drewN | apply below_drew1) | exact HB.out)⟩
            · replace c24 := Bool.eq_false_iff.mpr c24
              subst c24
              have H1 : (some false) = some r := by rw [if_neg (show ¬ (false = true) by decide)] at H; exact H
              clear H
              have H := H1
              clear H1
              obtain rfl := Option.some.inj H
              obtain ⟨Ao27, co27, eo27⟩ := Kd.R_slice HO_6.out
              subst eo27
              go_wp2_with (first | ((with_reducible refine gate_callee (f := 19) rfl ?_); refine goesL_ (some 42) rfl rfl Try.func19 (by kernel_rfl) rfl #[.slice Ao27 x6_1.length co27, .int .i64 0, .int .i64 64] rfl (by (try simp only [List.map_toArray, List.map_cons, List.map_nil]); first | done | rfl | (simp only [List.length_drop, List.length_take]; rfl)) ?_; (with_reducible refine (leb_ReadU.calls _ _ x6_1 0 64 t208 t209 t210 _ ?side1 ?side2 A22.out).mono ?_); (case side1 => repeat (first | exact (Kd.R_reads' HO_6.out).2.2 | (with_reducible refine Kd.C_alloc ?_ _) | (with_reducible refine Kd.C_drewN ?_ _) | (with_reducible refine Kd.C_drew ?_))); (case side2 => exact (Kd.R_reads' HO_6.out).2.1); rintro e w28 ⟨rfl, hb⟩; refine ⟨_, rfl, ?_⟩; have n0_ := Aside0.mk (Kd.R_below (by (with_reducible repeat (first | apply Kd.R_alloc | apply Kd.R_drewN | apply Kd.R_drew)); exact HO_6.out) hb); have n1_ := Aside0.mk (below_step (by repeat (first | (with_reducible first | exact HB.out | apply below_alloc | apply pw_below_drewN | apply below_drew1) | exact HB.out)) hb); clear HO_6; clear HB; have HO_6 := n0_; have HB := n1_; clear n0_ n1_; (try clear hb); (try clear hb2); (try clear hk); (try clear hi)))
              go_ret
              exact ⟨by first | rfl | (simp [errW_none, errW_some] <;> rfl) | (simp [*, errW_none, errW_some] <;> rfl), by repeat (first | (with_reducible first | exact HB.out | apply below_alloc | apply pw_below_drewN | apply below_drew1) | exact HB.out)⟩
          · rw [if_neg c23] at H
            have c23b0 : decide (10 < (x6_1.length : Int)) = false := decide_eq_false c23
            have c23b1 : decide (10 < x6_1.length) = false := decide_eq_false (by omega)
            clear c23
            by_cases c29 : t199 = true
            · subst c29
              have H1 : (if t210 = 0 then (if t208 = a0 then (some (t209 == (x6_1.length : Int))) else (some false)) else (some false)) = some r := by rw [if_pos rfl] at H; exact H
              clear H
              have H := H1
              clear H1
              by_cases c30 : t210 = 0
              · rw [if_pos c30] at H
                have c30b0 : (t210 == 0) = true := beq_iff_eq.mpr c30
                have c30b1 : (t210 != 0) = false := bne_eq_false_iff_eq.mpr c30
                clear c30
                by_cases c31 : t208 = a0
                · rw [if_pos c31] at H
                  have c31b0 : (t208 == a0) = true := beq_iff_eq.mpr c31
                  have c31b1 : (t208 != a0) = false := bne_eq_false_iff_eq.mpr c31
                  clear c31
                  obtain rfl := Option.some.inj H
                  obtain ⟨Ao32, co32, eo32⟩ := Kd.R_slice HO_6.out
                  subst eo32
                  go_wp2_with (first | ((with_reducible refine gate_callee (f := 19) rfl ?_); refine goesL_ (some 42) rfl rfl Try.func19 (by kernel_rfl) rfl #[.slice Ao32 x6_1.length co32, .int .i64 0, .int .i64 64] rfl (by (try simp only [List.map_toArray, List.map_cons, List.map_nil]); first | done | rfl | (simp only [List.length_drop, List.length_take]; rfl)) ?_; (with_reducible refine (leb_ReadU.calls _ _ x6_1 0 64 t208 t209 t210 _ ?side1 ?side2 A22.out).mono ?_); (case side1 => repeat (first | exact (Kd.R_reads' HO_6.out).2.2 | (with_reducible refine Kd.C_alloc ?_ _) | (with_reducible refine Kd.C_drewN ?_ _) | (with_reducible refine Kd.C_drew ?_))); (case side2 => exact (Kd.R_reads' HO_6.out).2.1); rintro e w33 ⟨rfl, hb⟩; refine ⟨_, rfl, ?_⟩; have n0_ := Aside0.mk (Kd.R_below (by (with_reducible repeat (first | apply Kd.R_alloc | apply Kd.R_drewN | apply Kd.R_drew)); exact HO_6.out) hb); have n1_ := Aside0.mk (below_step (by repeat (first | (with_reducible first | exact HB.out | apply below_alloc | apply pw_below_drewN | apply below_drew1) | exact HB.out)) hb); clear HO_6; clear HB; have HO_6 := n0_; have HB := n1_; clear n0_ n1_; (try clear hb); (try clear hb2); (try clear hk); (try clear hi)))
                  go_ret
                  exact ⟨by first | rfl | (simp [errW_none, errW_some] <;> rfl) | (simp [*, errW_none, errW_some] <;> rfl), by repeat (first | (with_reducible first | exact HB.out | apply below_alloc | apply pw_below_drewN | apply below_drew1) | exact HB.out)⟩
                · rw [if_neg c31] at H
                  have c31b0 : (t208 == a0) = false := beq_eq_false_iff_ne.mpr c31
                  have c31b1 : (t208 != a0) = true := bne_iff_ne.mpr c31
                  obtain rfl := Option.some.inj H
                  obtain ⟨Ao34, co34, eo34⟩ := Kd.R_slice HO_6.out
                  subst eo34
                  go_wp2_with (first | ((with_reducible refine gate_callee (f := 19) rfl ?_); refine goesL_ (some 42) rfl rfl Try.func19 (by kernel_rfl) rfl #[.slice Ao34 x6_1.length co34, .int .i64 0, .int .i64 64] rfl (by (try simp only [List.map_toArray, List.map_cons, List.map_nil]); first | done | rfl | (simp only [List.length_drop, List.length_take]; rfl)) ?_; (with_reducible refine (leb_ReadU.calls _ _ x6_1 0 64 t208 t209 t210 _ ?side1 ?side2 A22.out).mono ?_); (case side1 => repeat (first | exact (Kd.R_reads' HO_6.out).2.2 | (with_reducible refine Kd.C_alloc ?_ _) | (with_reducible refine Kd.C_drewN ?_ _) | (with_reducible refine Kd.C_drew ?_))); (case side2 => exact (Kd.R_reads' HO_6.out).2.1); rintro e w35 ⟨rfl, hb⟩; refine ⟨_, rfl, ?_⟩; have n0_ := Aside0.mk (Kd.R_below (by (with_reducible repeat (first | apply Kd.R_alloc | apply Kd.R_drewN | apply Kd.R_drew)); exact HO_6.out) hb); have n1_ := Aside0.mk (below_step (by repeat (first | (with_reducible first | exact HB.out | apply below_alloc | apply pw_below_drewN | apply below_drew1) | exact HB.out)) hb); clear HO_6; clear HB; have HO_6 := n0_; have HB := n1_; clear n0_ n1_; (try clear hb); (try clear hb2); (try clear hk); (try clear hi)))
                  go_ret
                  exact ⟨by first | rfl | (simp [errW_none, errW_some] <;> rfl) | (simp [*, errW_none, errW_some] <;> rfl), by repeat (first | (with_reducible first | exact HB.out | apply below_alloc | apply pw_below_drewN | apply below_drew1) | exact HB.out)⟩
              · rw [if_neg c30] at H
                have c30b0 : (t210 == 0) = false := beq_eq_false_iff_ne.mpr c30
                have c30b1 : (t210 != 0) = true := bne_iff_ne.mpr c30
                obtain rfl := Option.some.inj H
                obtain ⟨Ao36, co36, eo36⟩ := Kd.R_slice HO_6.out
                subst eo36
                go_wp2_with (first | ((with_reducible refine gate_callee (f := 19) rfl ?_); refine goesL_ (some 42) rfl rfl Try.func19 (by kernel_rfl) rfl #[.slice Ao36 x6_1.length co36, .int .i64 0, .int .i64 64] rfl (by (try simp only [List.map_toArray, List.map_cons, List.map_nil]); first | done | rfl | (simp only [List.length_drop, List.length_take]; rfl)) ?_; (with_reducible refine (leb_ReadU.calls _ _ x6_1 0 64 t208 t209 t210 _ ?side1 ?side2 A22.out).mono ?_); (case side1 => repeat (first | exact (Kd.R_reads' HO_6.out).2.2 | (with_reducible refine Kd.C_alloc ?_ _) | (with_reducible refine Kd.C_drewN ?_ _) | (with_reducible refine Kd.C_drew ?_))); (case side2 => exact (Kd.R_reads' HO_6.out).2.1); rintro e w37 ⟨rfl, hb⟩; refine ⟨_, rfl, ?_⟩; have n0_ := Aside0.mk (Kd.R_below (by (with_reducible repeat (first | apply Kd.R_alloc | apply Kd.R_drewN | apply Kd.R_drew)); exact HO_6.out) hb); have n1_ := Aside0.mk (below_step (by repeat (first | (with_reducible first | exact HB.out | apply below_alloc | apply pw_below_drewN | apply below_drew1) | exact HB.out)) hb); clear HO_6; clear HB; have HO_6 := n0_; have HB := n1_; clear n0_ n1_; (try clear hb); (try clear hb2); (try clear hk); (try clear hi)))
                go_ret
                exact ⟨by first | rfl | (simp [errW_none, errW_some] <;> rfl) | (simp [*, errW_none, errW_some] <;> rfl), by repeat (first | (with_reducible first | exact HB.out | apply below_alloc | apply pw_below_drewN | apply below_drew1) | exact HB.out)⟩
            · replace c29 := Bool.eq_false_iff.mpr c29
              subst c29
              have H1 : (some false) = some r := by rw [if_neg (show ¬ (false = true) by decide)] at H; exact H
              clear H
              have H := H1
              clear H1
              obtain rfl := Option.some.inj H
              obtain ⟨Ao38, co38, eo38⟩ := Kd.R_slice HO_6.out
              subst eo38
              go_wp2_with (first | ((with_reducible refine gate_callee (f := 19) rfl ?_); refine goesL_ (some 42) rfl rfl Try.func19 (by kernel_rfl) rfl #[.slice Ao38 x6_1.length co38, .int .i64 0, .int .i64 64] rfl (by (try simp only [List.map_toArray, List.map_cons, List.map_nil]); first | done | rfl | (simp only [List.length_drop, List.length_take]; rfl)) ?_; (with_reducible refine (leb_ReadU.calls _ _ x6_1 0 64 t208 t209 t210 _ ?side1 ?side2 A22.out).mono ?_); (case side1 => repeat (first | exact (Kd.R_reads' HO_6.out).2.2 | (with_reducible refine Kd.C_alloc ?_ _) | (with_reducible refine Kd.C_drewN ?_ _) | (with_reducible refine Kd.C_drew ?_))); (case side2 => exact (Kd.R_reads' HO_6.out).2.1); rintro e w39 ⟨rfl, hb⟩; refine ⟨_, rfl, ?_⟩; have n0_ := Aside0.mk (Kd.R_below (by (with_reducible repeat (first | apply Kd.R_alloc | apply Kd.R_drewN | apply Kd.R_drew)); exact HO_6.out) hb); have n1_ := Aside0.mk (below_step (by repeat (first | (with_reducible first | exact HB.out | apply below_alloc | apply pw_below_drewN | apply below_drew1) | exact HB.out)) hb); clear HO_6; clear HB; have HO_6 := n0_; have HB := n1_; clear n0_ n1_; (try clear hb); (try clear hb2); (try clear hk); (try clear hi)))
              go_ret
              exact ⟨by first | rfl | (simp [errW_none, errW_some] <;> rfl) | (simp [*, errW_none, errW_some] <;> rfl), by repeat (first | (with_reducible first | exact HB.out | apply below_alloc | apply pw_below_drewN | apply below_drew1) | exact HB.out)⟩

/-- THE ONE PURE STATEMENT of avocetlaw01_LebLong: yours. -/
def avocetlaw01_LebLong.Pure : Prop := ∀ (a0 : Int) (a1 : Int), (Lit.int .u64 a0).wf = true → (Lit.int .i64 a1).wf = true → ∃ k, avocetlaw01_LebLong.f k a0 a1 = some true
theorem avocetlaw01_LebLong.walk (P : avocetlaw01_LebLong.Pure) (a0 : Int) (a1 : Int) (w : World) (w0 : (Lit.int .u64 a0).wf = true) (w1 : (Lit.int .i64 a1).wf = true) :
    Calls Try.prog 5 #[.int .u64 a0, .int .i64 a1] w fun e w' => e = .returned (.bool true) ∧ Below w.heap.size w w' := by
  obtain ⟨k, h⟩ := P a0 a1 w0 w1
  refine (avocetlaw01_LebLong.calls k a0 a1 true w h).mono ?_
  rintro e w' ⟨rfl, hd⟩
  exact ⟨rfl, hd⟩

end Go.Proofs.Ytiohdianmddfkaa.G
