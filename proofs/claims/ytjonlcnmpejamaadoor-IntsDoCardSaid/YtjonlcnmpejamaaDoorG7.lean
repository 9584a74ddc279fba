-- Made by gprint.py (mine) over the kit's print.py, out of the translation; parts of it typed by hand.
import Derived.Test.YtjonlcnmpejamaaDoorG0
import Derived.Test.YtjonlcnmpejamaaDoorG1
import Derived.Test.YtjonlcnmpejamaaDoorG2
namespace Go.Proofs.YtjonlcnmpejamaaDoor.G
open Go.RowKit Go.Proofs.YtjonlcnmpejamaaDoorW.PrintWords Go.Proofs.YtjonlcnmpejamaaDoorW.PrintLast Go.Proofs.YtjonlcnmpejamaaDoorW.PrintMore
attribute [local go_sem] max2_int min2_int max_two min_two max_three min_three max_four min_four   -- for this text's walks alone
set_option linter.unusedVariables false
set_option linter.unusedSimpArgs false

/-! ### avocetlaw02_IntsTurn: function 5 -/
mutual
def avocetlaw02_IntsTurn.j0 : Nat → Int → Int → Bool → Bool → Int → Int → Int → Option (Bool)
  | 0, _, _, _, _, _, _, _ => none
  | k + 1, x0, x1, x2, x7, x8, x9, x10 => if x2 = true then (avocetlaw02_IntsTurn.j1 k x1 x7 x8 x9 x10 x0) else (avocetlaw02_IntsTurn.j1 k x1 x7 x8 x9 x10 (Int.tmod x0 4294967296))
def avocetlaw02_IntsTurn.j1 : Nat → Int → Bool → Int → Int → Int → Int → Option (Bool)
  | 0, _, _, _, _, _, _ => none
  | k + 1, x1, x7, x8, x9, x10, x11 => (ints_Two.f x8 x11 x1).bind fun bt218 => ((ints_Two.f (wrap64 (x8 + 1)) bt218.1 x1).bind fun bt221 => ((ints_One.f k x9 x11).bind fun bt224 => ((ints_One.f k x9 bt218.1).bind fun bt226 => ((ints_Two.f (wrap64 (x8 - 3)) x11 x1).bind fun bt228 => (if x10 = 0 then (none) else ((ints_Two.f (wrap64 (x8 - 1)) x11 (IntKind.u64.wrap (x10 - (Int.tmod x1 x10)))).bind fun bt231 => ((ints_Two.f (wrap64 (x8 - 5)) bt228.1 bt231.1).bind fun bt234 => (if x7 = true then (if bt221.1 = x11 then (if bt224.1 = bt226.1 then (if (Int.tmod x1 x10) = 0 then (some true) else (some (bt234.1 == bt218.1))) else (some false)) else (some false)) else (some false)))))))))
end
def avocetlaw02_IntsTurn.f (k : Nat) (a0 : Int) (a1 : Int) (a2 : Bool) : Option (Bool) := (avocetlaw02_awake.f k).bind fun t217 => (if a2 = true then (avocetlaw02_IntsTurn.j0 k a0 a1 a2 t217 137 123 64) else (avocetlaw02_IntsTurn.j0 k a0 a1 a2 t217 119 105 32))
theorem avocetlaw02_IntsTurn.mono_l : ∀ k, (∀ y0 y1 y2 y3 y4 y5 y6, LeO (avocetlaw02_IntsTurn.j0 k y0 y1 y2 y3 y4 y5 y6) (avocetlaw02_IntsTurn.j0 (k + 1) y0 y1 y2 y3 y4 y5 y6)) ∧ (∀ y0 y1 y2 y3 y4 y5, LeO (avocetlaw02_IntsTurn.j1 k y0 y1 y2 y3 y4 y5) (avocetlaw02_IntsTurn.j1 (k + 1) y0 y1 y2 y3 y4 y5))
  | 0 => ⟨fun _ _ _ _ _ _ _ r h => by simp [avocetlaw02_IntsTurn.j0] at h, fun _ _ _ _ _ _ r h => by simp [avocetlaw02_IntsTurn.j1] at h⟩
  | k + 1 => by
    obtain ⟨ih0, ih1⟩ := avocetlaw02_IntsTurn.mono_l k
    refine ⟨?_, ?_⟩
    · intro y0 y1 y2 y3 y4 y5 y6
      unfold avocetlaw02_IntsTurn.j0
      repeat' first
      | (with_reducible exact ih0 _ _ _ _ _ _ _)
      | (with_reducible exact ih1 _ _ _ _ _ _)
      | (with_reducible exact avocetlaw02_awake.mono _)
      | (with_reducible exact ints_One.mono _ _ _)
      | (with_reducible exact LeO.refl _)
      | (with_reducible exact LeO.none _)
      | (with_reducible refine LeO.ite ?_ ?_)
      | (with_reducible refine LeO.bind ?_ (fun _ => ?_))
      | exact ih0 _ _ _ _ _ _ _
      | exact ih1 _ _ _ _ _ _
      | exact avocetlaw02_awake.mono _
      | exact ints_One.mono _ _ _
      | exact LeO.none _
      | refine LeO.ite ?_ ?_
      | refine LeO.bind ?_ (fun _ => ?_)
    · intro y0 y1 y2 y3 y4 y5
      unfold avocetlaw02_IntsTurn.j1
      repeat' first
      | (with_reducible exact ih0 _ _ _ _ _ _ _)
      | (with_reducible exact ih1 _ _ _ _ _ _)
      | (with_reducible exact avocetlaw02_awake.mono _)
      | (with_reducible exact ints_One.mono _ _ _)
      | (with_reducible exact LeO.refl _)
      | (with_reducible exact LeO.none _)
      | (with_reducible refine LeO.ite ?_ ?_)
      | (with_reducible refine LeO.bind ?_ (fun _ => ?_))
      | exact ih0 _ _ _ _ _ _ _
      | exact ih1 _ _ _ _ _ _
      | exact avocetlaw02_awake.mono _
      | exact ints_One.mono _ _ _
      | exact LeO.none _
      | refine LeO.ite ?_ ?_
      | refine LeO.bind ?_ (fun _ => ?_)
theorem avocetlaw02_IntsTurn.mono : ∀ a0 a1 a2 k, LeO (avocetlaw02_IntsTurn.f k a0 a1 a2) (avocetlaw02_IntsTurn.f (k + 1) a0 a1 a2) := by
  intro a0 a1 a2 k
  obtain ⟨ih0, ih1⟩ := avocetlaw02_IntsTurn.mono_l k
  unfold avocetlaw02_IntsTurn.f
  repeat' first
      | (with_reducible exact ih0 _ _ _ _ _ _ _)
      | (with_reducible exact ih1 _ _ _ _ _ _)
      | (with_reducible exact avocetlaw02_awake.mono _)
      | (with_reducible exact ints_One.mono _ _ _)
      | (with_reducible exact LeO.refl _)
      | (with_reducible exact LeO.none _)
      | (with_reducible refine LeO.ite ?_ ?_)
      | (with_reducible refine LeO.bind ?_ (fun _ => ?_))
      | exact ih0 _ _ _ _ _ _ _
      | exact ih1 _ _ _ _ _ _
      | exact avocetlaw02_awake.mono _
      | exact ints_One.mono _ _ _
      | exact LeO.none _
      | refine LeO.ite ?_ ?_
      | refine LeO.bind ?_ (fun _ => ?_)
set_option maxHeartbeats 8000000 in
set_option maxRecDepth 100000 in
theorem avocetlaw02_IntsTurn.calls (k : Nat) (a0 : Int) (a1 : Int) (a2 : Bool) (r : Bool) (w : World) (hG : Globs w) (hr_ : r = true) (h : avocetlaw02_IntsTurn.f k a0 a1 a2 = some r) :
    Calls Tryd.prog 5 #[.int .u64 a0, .int .u64 a1, .bool a2] w fun e w' => e = .returned (.bool r) ∧ Below w.heap.size w w' := by
  have HRT_ := Aside0.mk hr_
  clear hr_
  have HG := Aside0.mk hG
  clear hG
  have HB := Aside0.mk (Below.refl w.heap.size w)
  have H : ((avocetlaw02_awake.f k).bind fun t217 => (if a2 = true then (avocetlaw02_IntsTurn.j0 k a0 a1 a2 t217 137 123 64) else (avocetlaw02_IntsTurn.j0 k a0 a1 a2 t217 119 105 32))) = some r := h
  clear h
  replace H := Option.bind_eq_some_iff.mp H
  obtain ⟨t217, A40, H⟩ := H
  replace H : (if a2 = true then (avocetlaw02_IntsTurn.j0 k a0 a1 a2 t217 137 123 64) else (avocetlaw02_IntsTurn.j0 k a0 a1 a2 t217 119 105 32)) = some r := H
  have A4 := Aside0.mk A40
  clear A40
  have HC5 := Aside0.mk H
  clear H
  go_enter Tryd.func5, Tryd.ntmps5
  go_upto_if 32 with (first | ((with_reducible refine gate_callee (f := 13) rfl ?_); refine goesL_ (some 31) rfl rfl Tryd.func13 (by kernel_rfl) rfl #[] rfl (by (try simp only [List.map_toArray, List.map_cons, List.map_nil]); first | done | rfl | (simp only [List.length_drop, List.length_take]; rfl)) ?_; (with_reducible refine (avocetlaw02_awake.calls k  t217 _ ?side1 A4.out).mono ?_); (case side1 => first | exact Globs.below HG.out HB.out | exact Globs.below HG.out (by repeat (first | (with_reducible first | exact HB.out | apply below_alloc | apply pw_below_drewN | apply below_drew1) | exact HB.out)) | (repeat (first | exact HG.out | (with_reducible refine Globs.alloc ?_ _) | (with_reducible refine Globs.drewN ?_ _) | (with_reducible refine Globs.drew ?_)))); rintro e w6 ⟨rfl, hb⟩; refine ⟨_, rfl, ?_⟩; have n0_ := Aside0.mk (below_step (by repeat (first | (with_reducible first | exact HB.out | apply below_alloc | apply pw_below_drewN | apply below_drew1) | exact HB.out)) hb); clear HB; have HB := n0_; clear n0_; (try clear hb); (try clear hb2); (try clear hk); (try clear hi)))
  (try simp only [Act.put, List.setIfInBounds_toArray, List.set_cons_zero, List.set_cons_succ])
  go_cut [8, 9, 10] (fun v8 v9 v10 wc => ∃ (kq : Nat) (x8_4 : Int) (x9_4 : Int) (x10_4 : Int), v8 = .int .i64 x8_4 ∧ v9 = .int .i64 x9_4 ∧ v10 = .int .u64 x10_4 ∧ Aside0 (avocetlaw02_IntsTurn.j0 kq a0 a1 a2 t217 x8_4 x9_4 x10_4 = some r) ∧ Aside0 (kq ≤ k) ∧ Aside0 (Below w.heap.size w wc))
  case first =>
    have H := HC5.out
    clear HC5
    by_cases c7 : a2 = true
    · subst c7
      have H1 : (avocetlaw02_IntsTurn.j0 k a0 a1 true t217 137 123 64) = some r := by rw [if_pos rfl] at H; exact H
      clear H
      have H := H1
      clear H1
      have H' := Aside0.mk H
      clear H
      go_wp2
      go_meet
      case rel => exact ⟨_, (137), (123), (64), (by first | rfl | (simp; done) | (simp [*]; done)), (by first | rfl | (simp; done) | (simp [*]; done)), (by first | rfl | (simp; done) | (simp [*]; done)), H', ⟨by first | omega | exact Nat.le_refl _⟩, ⟨by repeat (first | (with_reducible first | exact HB.out | apply below_alloc | apply pw_below_drewN | apply below_drew1) | exact HB.out)⟩⟩
    · replace c7 := Bool.eq_false_iff.mpr c7
      subst c7
      have H1 : (avocetlaw02_IntsTurn.j0 k a0 a1 false t217 119 105 32) = some r := by rw [if_neg (show ¬ (false = true) by decide)] at H; exact H
      clear H
      have H := H1
      clear H1
      have H' := Aside0.mk H
      clear H
      go_wp2
      go_meet
      case rel => exact ⟨_, (119), (105), (32), (by first | rfl | (simp; done) | (simp [*]; done)), (by first | rfl | (simp; done) | (simp [*]; done)), (by first | rfl | (simp; done) | (simp [*]; done)), H', ⟨by first | omega | exact Nat.le_refl _⟩, ⟨by repeat (first | (with_reducible first | exact HB.out | apply below_alloc | apply pw_below_drewN | apply below_drew1) | exact HB.out)⟩⟩
  case rest =>
    clear HC5
    try clear c1
    try clear p2
    try clear c5
    try clear c7
    obtain ⟨kq, x8_4, x9_4, x10_4, rfl, rfl, rfl, HA, HJ4, HB⟩ := hcut
    cases kq with
    | zero => exact absurd HA.out (by simp [avocetlaw02_IntsTurn.j0])
    | succ kj4 =>
      have H := HA.out
      clear HA
      simp only [avocetlaw02_IntsTurn.j0] at H
      have HC8 := Aside0.mk H
      clear H
      go_upto_if 35 with (fail)
      go_cut [11] (fun v11 wc => ∃ (kq : Nat) (x11_7 : Int), v11 = .int .u64 x11_7 ∧ Aside0 (avocetlaw02_IntsTurn.j1 kq a1 t217 x8_4 x9_4 x10_4 x11_7 = some r) ∧ Aside0 (kq ≤ kj4) ∧ Aside0 (Below w.heap.size w wc))
      case first =>
        have H := HC8.out
        clear HC8
        by_cases c9 : a2 = true
        · subst c9
          have H1 : (avocetlaw02_IntsTurn.j1 kj4 a1 t217 x8_4 x9_4 x10_4 a0) = some r := by rw [if_pos rfl] at H; exact H
          clear H
          have H := H1
          clear H1
          have H' := Aside0.mk H
          clear H
          go_wp2
          go_meet
          case rel => exact ⟨_, (a0), (by first | rfl | (simp; done) | (simp [*]; done)), H', ⟨by have := HJ4.out; first | omega | exact Nat.le_refl _⟩, ⟨by repeat (first | (with_reducible first | exact HB.out | apply below_alloc | apply pw_below_drewN | apply below_drew1) | exact HB.out)⟩⟩
        · replace c9 := Bool.eq_false_iff.mpr c9
          subst c9
          have H1 : (avocetlaw02_IntsTurn.j1 kj4 a1 t217 x8_4 x9_4 x10_4 (Int.tmod a0 4294967296)) = some r := by rw [if_neg (show ¬ (false = true) by decide)] at H; exact H
          clear H
          have H := H1
          clear H1
          have H' := Aside0.mk H
          clear H
          go_wp2
          go_meet
          case rel => exact ⟨_, (Int.tmod a0 4294967296), (by first | rfl | (simp; done) | (simp [*]; done)), H', ⟨by have := HJ4.out; first | omega | exact Nat.le_refl _⟩, ⟨by repeat (first | (with_reducible first | exact HB.out | apply below_alloc | apply pw_below_drewN | apply below_drew1) | exact HB.out)⟩⟩
      case rest =>
        clear HC8
        try clear c1
        try clear p2
        try clear c5
        try clear c7
        try clear c9
        try clear p2
        obtain ⟨kq, x11_7, rfl, HA, HJ7, HB⟩ := hcut
        cases kq with
        | zero => exact absurd HA.out (by simp [avocetlaw02_IntsTurn.j1])
        | succ kj7 =>
          have H := HA.out
          clear HA
          simp only [avocetlaw02_IntsTurn.j1] at H
          replace H := Option.bind_eq_some_iff.mp H
          obtain ⟨⟨t218, t219, t220⟩, A100, H⟩ := H
          replace H : ((ints_Two.f (wrap64 (x8_4 + 1)) t218 a1).bind fun bt221 => ((ints_One.f kj7 x9_4 x11_7).bind fun bt224 => ((ints_One.f kj7 x9_4 t218).bind fun bt226 => ((ints_Two.f (wrap64 (x8_4 - 3)) x11_7 a1).bind fun bt228 => (if x10_4 = 0 then (none) else ((ints_Two.f (wrap64 (x8_4 - 1)) x11_7 (IntKind.u64.wrap (x10_4 - (Int.tmod a1 x10_4)))).bind fun bt231 => ((ints_Two.f (wrap64 (x8_4 - 5)) bt228.1 bt231.1).bind fun bt234 => (if t217 = true then (if bt221.1 = x11_7 then (if bt224.1 = bt226.1 then (if (Int.tmod a1 x10_4) = 0 then (some true) else (some (bt234.1 == t218))) else (some false)) else (some false)) else (some false))))))))) = some r := H
          have A10 := Aside0.mk A100
          clear A100
          replace H := Option.bind_eq_some_iff.mp H
          obtain ⟨⟨t221, t222, t223⟩, A110, H⟩ := H
          replace H : ((ints_One.f kj7 x9_4 x11_7).bind fun bt224 => ((ints_One.f kj7 x9_4 t218).bind fun bt226 => ((ints_Two.f (wrap64 (x8_4 - 3)) x11_7 a1).bind fun bt228 => (if x10_4 = 0 then (none) else ((ints_Two.f (wrap64 (x8_4 - 1)) x11_7 (IntKind.u64.wrap (x10_4 - (Int.tmod a1 x10_4)))).bind fun bt231 => ((ints_Two.f (wrap64 (x8_4 - 5)) bt228.1 bt231.1).bind fun bt234 => (if t217 = true then (if t221 = x11_7 then (if bt224.1 = bt226.1 then (if (Int.tmod a1 x10_4) = 0 then (some true) else (some (bt234.1 == t218))) else (some false)) else (some false)) else (some false)))))))) = some r := H
          have A11 := Aside0.mk A110
          clear A110
          replace H := Option.bind_eq_some_iff.mp H
          obtain ⟨⟨t224, t225⟩, A120, H⟩ := H
          replace H : ((ints_One.f kj7 x9_4 t218).bind fun bt226 => ((ints_Two.f (wrap64 (x8_4 - 3)) x11_7 a1).bind fun bt228 => (if x10_4 = 0 then (none) else ((ints_Two.f (wrap64 (x8_4 - 1)) x11_7 (IntKind.u64.wrap (x10_4 - (Int.tmod a1 x10_4)))).bind fun bt231 => ((ints_Two.f (wrap64 (x8_4 - 5)) bt228.1 bt231.1).bind fun bt234 => (if t217 = true then (if t221 = x11_7 then (if t224 = bt226.1 then (if (Int.tmod a1 x10_4) = 0 then (some true) else (some (bt234.1 == t218))) else (some false)) else (some false)) else (some false))))))) = some r := H
          have A12 := Aside0.mk A120
          clear A120
          replace H := Option.bind_eq_some_iff.mp H
          obtain ⟨⟨t226, t227⟩, A130, H⟩ := H
          replace H : ((ints_Two.f (wrap64 (x8_4 - 3)) x11_7 a1).bind fun bt228 => (if x10_4 = 0 then (none) else ((ints_Two.f (wrap64 (x8_4 - 1)) x11_7 (IntKind.u64.wrap (x10_4 - (Int.tmod a1 x10_4)))).bind fun bt231 => ((ints_Two.f (wrap64 (x8_4 - 5)) bt228.1 bt231.1).bind fun bt234 => (if t217 = true then (if t221 = x11_7 then (if t224 = t226 then (if (Int.tmod a1 x10_4) = 0 then (some true) else (some (bt234.1 == t218))) else (some false)) else (some false)) else (some false)))))) = some r := H
          have A13 := Aside0.mk A130
          clear A130
          replace H := Option.bind_eq_some_iff.mp H
          obtain ⟨⟨t228, t229, t230⟩, A140, H⟩ := H
          replace H : (if x10_4 = 0 then (none) else ((ints_Two.f (wrap64 (x8_4 - 1)) x11_7 (IntKind.u64.wrap (x10_4 - (Int.tmod a1 x10_4)))).bind fun bt231 => ((ints_Two.f (wrap64 (x8_4 - 5)) t228 bt231.1).bind fun bt234 => (if t217 = true then (if t221 = x11_7 then (if t224 = t226 then (if (Int.tmod a1 x10_4) = 0 then (some true) else (some (bt234.1 == t218))) else (some false)) else (some false)) else (some false))))) = some r := H
          have A14 := Aside0.mk A140
          clear A140
          by_cases c15 : x10_4 = 0
          · rw [if_pos c15] at H
            exact absurd H (by simp)
          · rw [if_neg c15] at H
            have c15b0 : (x10_4 == 0) = false := beq_eq_false_iff_ne.mpr c15
            have c15b1 : (x10_4 != 0) = true := bne_iff_ne.mpr c15
            replace H := Option.bind_eq_some_iff.mp H
            obtain ⟨⟨t231, t232, t233⟩, A160, H⟩ := H
            replace H : ((ints_Two.f (wrap64 (x8_4 - 5)) t228 t231).bind fun bt234 => (if t217 = true then (if t221 = x11_7 then (if t224 = t226 then (if (Int.tmod a1 x10_4) = 0 then (some true) else (some (bt234.1 == t218))) else (some false)) else (some false)) else (some false))) = some r := H
            have A16 := Aside0.mk A160
            clear A160
            replace H := Option.bind_eq_some_iff.mp H
            obtain ⟨⟨t234, t235, t236⟩, A170, H⟩ := H
            replace H : (if t217 = true then (if t221 = x11_7 then (if t224 = t226 then (if (Int.tmod a1 x10_4) = 0 then (some true) else (some (t234 == t218))) else (some false)) else (some false)) else (some false)) = some r := H
            have A17 := Aside0.mk A170
            clear A170
            by_cases c18 : t217 = true
            · subst c18
              have H1 : (if t221 = x11_7 then (if t224 = t226 then (if (Int.tmod a1 x10_4) = 0 then (some true) else (some (t234 == t218))) else (some false)) else (some false)) = some r := by rw [if_pos rfl] at H; exact H
              clear H
              have H := H1
              clear H1
              by_cases c19 : t221 = x11_7
              · rw [if_pos c19] at H
                have c19b0 : (t221 == x11_7) = true := beq_iff_eq.mpr c19
                have c19b1 : (t221 != x11_7) = false := bne_eq_false_iff_eq.mpr c19
                clear c19
                by_cases c20 : t224 = t226
                · rw [if_pos c20] at H
                  have c20b0 : (t224 == t226) = true := beq_iff_eq.mpr c20
                  have c20b1 : (t224 != t226) = false := bne_eq_false_iff_eq.mpr c20
                  clear c20
                  by_cases c21 : (Int.tmod a1 x10_4) = 0
                  · rw [if_pos c21] at H
                    have c21b0 : ((Int.tmod a1 x10_4) == 0) = true := beq_iff_eq.mpr c21
                    have c21b1 : ((Int.tmod a1 x10_4) != 0) = false := bne_eq_false_iff_eq.mpr c21
                    clear c21
                    obtain rfl := Option.some.inj H
                    go_wp2_with (first | ((with_reducible refine gate_callee (f := 16) rfl ?_); refine goesL_ (some 42) rfl rfl Tryd.func16 (by kernel_rfl) rfl #[.int .i64 x8_4, .int .u64 x11_7, .int .u64 a1] rfl (by (try simp only [List.map_toArray, List.map_cons, List.map_nil]); first | done | rfl | (simp only [List.length_drop, List.length_take]; rfl)) ?_; (with_reducible refine (ints_Two.calls x8_4 x11_7 a1 t218 t219 t220 _ A10.out).mono ?_); rintro e w22 ⟨rfl, hb⟩; refine ⟨_, rfl, ?_⟩; have n0_ := Aside0.mk (below_step (by repeat (first | (with_reducible first | exact HB.out | apply below_alloc | apply pw_below_drewN | apply below_drew1) | exact HB.out)) hb); clear HB; have HB := n0_; clear n0_; (try clear hb); (try clear hb2); (try clear hk); (try clear hi)) | ((with_reducible refine gate_callee (f := 16) rfl ?_); refine goesL_ (some 51) rfl rfl Tryd.func16 (by kernel_rfl) rfl #[.int .i64 (wrap64 (x8_4 + 1)), .int .u64 t218, .int .u64 a1] rfl (by (try simp only [List.map_toArray, List.map_cons, List.map_nil]); first | done | rfl | (simp only [List.length_drop, List.length_take]; rfl)) ?_; (with_reducible refine (ints_Two.calls (wrap64 (x8_4 + 1)) t218 a1 t221 t222 t223 _ A11.out).mono ?_); rintro e w23 ⟨rfl, hb⟩; refine ⟨_, rfl, ?_⟩; have n0_ := Aside0.mk (below_step (by repeat (first | (with_reducible first | exact HB.out | apply below_alloc | apply pw_below_drewN | apply below_drew1) | exact HB.out)) hb); clear HB; have HB := n0_; clear n0_; (try clear hb); (try clear hb2); (try clear hk); (try clear hi)) | ((with_reducible refine gate_callee (f := 15) rfl ?_); refine goesL_ (some 58) rfl rfl Tryd.func15 (by kernel_rfl) rfl #[.int .i64 x9_4, .int .u64 x11_7] rfl (by (try simp only [List.map_toArray, List.map_cons, List.map_nil]); first | done | rfl | (simp only [List.length_drop, List.length_take]; rfl)) ?_; (with_reducible refine (ints_One.calls kj7 x9_4 x11_7 t224 t225 _ ?side1 A12.out).mono ?_); (case side1 => first | exact Globs.below HG.out HB.out | exact Globs.below HG.out (by repeat (first | (with_reducible first | exact HB.out | apply below_alloc | apply pw_below_drewN | apply below_drew1) | exact HB.out)) | (repeat (first | exact HG.out | (with_reducible refine Globs.alloc ?_ _) | (with_reducible refine Globs.drewN ?_ _) | (with_reducible refine Globs.drew ?_)))); rintro e w' ⟨rfl, ⟨nd, rfl⟩⟩; refine ⟨_, rfl, ?_⟩) | ((with_reducible refine gate_callee (f := 15) rfl ?_); refine goesL_ (some 64) rfl rfl Tryd.func15 (by kernel_rfl) rfl #[.int .i64 x9_4, .int .u64 t218] rfl (by (try simp only [List.map_toArray, List.map_cons, List.map_nil]); first | done | rfl | (simp only [List.length_drop, List.length_take]; rfl)) ?_; (with_reducible refine (ints_One.calls kj7 x9_4 t218 t226 t227 _ ?side1 A13.out).mono ?_); (case side1 => first | exact Globs.below HG.out HB.out | exact Globs.below HG.out (by repeat (first | (with_reducible first | exact HB.out | apply below_alloc | apply pw_below_drewN | apply below_drew1) | exact HB.out)) | (repeat (first | exact HG.out | (with_reducible refine Globs.alloc ?_ _) | (with_reducible refine Globs.drewN ?_ _) | (with_reducible refine Globs.drew ?_)))); rintro e w' ⟨rfl, ⟨nd, rfl⟩⟩; refine ⟨_, rfl, ?_⟩) | ((with_reducible refine gate_callee (f := 16) rfl ?_); refine goesL_ (some 72) rfl rfl Tryd.func16 (by kernel_rfl) rfl #[.int .i64 (wrap64 (x8_4 - 3)), .int .u64 x11_7, .int .u64 a1] rfl (by (try simp only [List.map_toArray, List.map_cons, List.map_nil]); first | done | rfl | (simp only [List.length_drop, List.length_take]; rfl)) ?_; (with_reducible refine (ints_Two.calls (wrap64 (x8_4 - 3)) x11_7 a1 t228 t229 t230 _ A14.out).mono ?_); rintro e w24 ⟨rfl, hb⟩; refine ⟨_, rfl, ?_⟩; have n0_ := Aside0.mk (below_step (by repeat (first | (with_reducible first | exact HB.out | apply below_alloc | apply pw_below_drewN | apply below_drew1) | exact HB.out)) hb); clear HB; have HB := n0_; clear n0_; (try clear hb); (try clear hb2); (try clear hk); (try clear hi)) | ((with_reducible refine gate_callee (f := 16) rfl ?_); refine goesL_ (some 85) rfl rfl Tryd.func16 (by kernel_rfl) rfl #[.int .i64 (wrap64 (x8_4 - 1)), .int .u64 x11_7, .int .u64 (IntKind.u64.wrap (x10_4 - (Int.tmod a1 x10_4)))] rfl (by (try simp only [List.map_toArray, List.map_cons, List.map_nil]); first | done | rfl | (simp only [List.length_drop, List.length_take]; rfl)) ?_; (with_reducible refine (ints_Two.calls (wrap64 (x8_4 - 1)) x11_7 (IntKind.u64.wrap (x10_4 - (Int.tmod a1 x10_4))) t231 t232 t233 _ A16.out).mono ?_); rintro e w25 ⟨rfl, hb⟩; refine ⟨_, rfl, ?_⟩; have n0_ := Aside0.mk (below_step (by repeat (first | (with_reducible first | exact HB.out | apply below_alloc | apply pw_below_drewN | apply below_drew1) | exact HB.out)) hb); clear HB; have HB := n0_; clear n0_; (try clear hb); (try clear hb2); (try clear hk); (try clear hi)) | ((with_reducible refine gate_callee (f := 16) rfl ?_); refine goesL_ (some 94) rfl rfl Tryd.func16 (by kernel_rfl) rfl #[.int .i64 (wrap64 (x8_4 - 5)), .int .u64 t228, .int .u64 t231] rfl (by (try simp only [List.map_toArray, List.map_cons, List.map_nil]); first | done | rfl | (simp only [List.length_drop, List.length_take]; rfl)) ?_; (with_reducible refine (ints_Two.calls (wrap64 (x8_4 - 5)) t228 t231 t234 t235 t236 _ A17.out).mono ?_); rintro e w26 ⟨rfl, hb⟩; refine ⟨_, rfl, ?_⟩; have n0_ := Aside0.mk (below_step (by repeat (first | (with_reducible first | exact HB.out | apply below_alloc | apply pw_below_drewN | apply below_drew1) | exact HB.out)) hb); clear HB; have HB := n0_; clear n0_; (try clear hb); (try clear hb2); (try clear hk); (try clear hi)))
                    go_ret
                    exact ⟨by first | rfl | (simp [errW_none, errW_some] <;> rfl) | (simp [*, errW_none, errW_some] <;> rfl), by repeat (first | (with_reducible first | exact HB.out | apply below_alloc | apply pw_below_drewN | apply below_drew1) | exact HB.out)⟩
                  · rw [if_neg c21] at H
                    have c21b0 : ((Int.tmod a1 x10_4) == 0) = false := beq_eq_false_iff_ne.mpr c21
                    have c21b1 : ((Int.tmod a1 x10_4) != 0) = true := bne_iff_ne.mpr c21
                    obtain rfl := Option.some.inj H
                    go_wp2_with (first | ((with_reducible refine gate_callee (f := 16) rfl ?_); refine goesL_ (some 42) rfl rfl Tryd.func16 (by kernel_rfl) rfl #[.int .i64 x8_4, .int .u64 x11_7, .int .u64 a1] rfl (by (try simp only [List.map_toArray, List.map_cons, List.map_nil]); first | done | rfl | (simp only [List.length_drop, List.length_take]; rfl)) ?_; (with_reducible refine (ints_Two.calls x8_4 x11_7 a1 t218 t219 t220 _ A10.out).mono ?_); rintro e w27 ⟨rfl, hb⟩; refine ⟨_, rfl, ?_⟩; have n0_ := Aside0.mk (below_step (by repeat (first | (with_reducible first | exact HB.out | apply below_alloc | apply pw_below_drewN | apply below_drew1) | exact HB.out)) hb); clear HB; have HB := n0_; clear n0_; (try clear hb); (try clear hb2); (try clear hk); (try clear hi)) | ((with_reducible refine gate_callee (f := 16) rfl ?_); refine goesL_ (some 51) rfl rfl Tryd.func16 (by kernel_rfl) rfl #[.int .i64 (wrap64 (x8_4 + 1)), .int .u64 t218, .int .u64 a1] rfl (by (try simp only [List.map_toArray, List.map_cons, List.map_nil]); first | done | rfl | (simp only [List.length_drop, List.length_take]; rfl)) ?_; (with_reducible refine (ints_Two.calls (wrap64 (x8_4 + 1)) t218 a1 t221 t222 t223 _ A11.out).mono ?_); rintro e w28 ⟨rfl, hb⟩; refine ⟨_, rfl, ?_⟩; have n0_ := Aside0.mk (below_step (by repeat (first | (with_reducible first | exact HB.out | apply below_alloc | apply pw_below_drewN | apply below_drew1) | exact HB.out)) hb); clear HB; have HB := n0_; clear n0_; (try clear hb); (try clear hb2); (try clear hk); (try clear hi)) | ((with_reducible refine gate_callee (f := 15) rfl ?_); refine goesL_ (some 58) rfl rfl Tryd.func15 (by kernel_rfl) rfl #[.int .i64 x9_4, .int .u64 x11_7] rfl (by (try simp only [List.map_toArray, List.map_cons, List.map_nil]); first | done | rfl | (simp only [List.length_drop, List.length_take]; rfl)) ?_; (with_reducible refine (ints_One.calls kj7 x9_4 x11_7 t224 t225 _ ?side1 A12.out).mono ?_); (case side1 => first | exact Globs.below HG.out HB.out | exact Globs.below HG.out (by repeat (first | (with_reducible first | exact HB.out | apply below_alloc | apply pw_below_drewN | apply below_drew1) | exact HB.out)) | (repeat (first | exact HG.out | (with_reducible refine Globs.alloc ?_ _) | (with_reducible refine Globs.drewN ?_ _) | (with_reducible refine Globs.drew ?_)))); rintro e w' ⟨rfl, ⟨nd, rfl⟩⟩; refine ⟨_, rfl, ?_⟩) | ((with_reducible refine gate_callee (f := 15) rfl ?_); refine goesL_ (some 64) rfl rfl Tryd.func15 (by kernel_rfl) rfl #[.int .i64 x9_4, .int .u64 t218] rfl (by (try simp only [List.map_toArray, List.map_cons, List.map_nil]); first | done | rfl | (simp only [List.length_drop, List.length_take]; rfl)) ?_; (with_reducible refine (ints_One.calls kj7 x9_4 t218 t226 t227 _ ?side1 A13.out).mono ?_); (case side1 => first | exact Globs.below HG.out HB.out | exact Globs.below HG.out (by repeat (first | (with_reducible first | exact HB.out | apply below_alloc | apply pw_below_drewN | apply below_drew1) | exact HB.out)) | (repeat (first | exact HG.out | (with_reducible refine Globs.alloc ?_ _) | (with_reducible refine Globs.drewN ?_ _) | (with_reducible refine Globs.drew ?_)))); rintro e w' ⟨rfl, ⟨nd, rfl⟩⟩; refine ⟨_, rfl, ?_⟩) | ((with_reducible refine gate_callee (f := 16) rfl ?_); refine goesL_ (some 72) rfl rfl Tryd.func16 (by kernel_rfl) rfl #[.int .i64 (wrap64 (x8_4 - 3)), .int .u64 x11_7, .int .u64 a1] rfl (by (try simp only [List.map_toArray, List.map_cons, List.map_nil]); first | done | rfl | (simp only [List.length_drop, List.length_take]; rfl)) ?_; (with_reducible refine (ints_Two.calls (wrap64 (x8_4 - 3)) x11_7 a1 t228 t229 t230 _ A14.out).mono ?_); rintro e w29 ⟨rfl, hb⟩; refine ⟨_, rfl, ?_⟩; have n0_ := Aside0.mk (below_step (by repeat (first | (with_reducible first | exact HB.out | apply below_alloc | apply pw_below_drewN | apply below_drew1) | exact HB.out)) hb); clear HB; have HB := n0_; clear n0_; (try clear hb); (try clear hb2); (try clear hk); (try clear hi)) | ((with_reducible refine gate_callee (f := 16) rfl ?_); refine goesL_ (some 85) rfl rfl Tryd.func16 (by kernel_rfl) rfl #[.int .i64 (wrap64 (x8_4 - 1)), .int .u64 x11_7, .int .u64 (IntKind.u64.wrap (x10_4 - (Int.tmod a1 x10_4)))] rfl (by (try simp only [List.map_toArray, List.map_cons, List.map_nil]); first | done | rfl | (simp only [List.length_drop, List.length_take]; rfl)) ?_; (with_reducible refine (ints_Two.calls (wrap64 (x8_4 - 1)) x11_7 (IntKind.u64.wrap (x10_4 - (Int.tmod a1 x10_4))) t231 t232 t233 _ A16.out).mono ?_); rintro e w30 ⟨rfl, hb⟩; refine ⟨_, rfl, ?_⟩; have n0_ := Aside0.mk (below_step (by repeat (first | (with_reducible first | exact HB.out | apply below_alloc | apply pw_below_drewN | apply below_drew1) | exact HB.out)) hb); clear HB; have HB := n0_; clear n0_; (try clear hb); (try clear hb2); (try clear hk); (try clear hi)) | ((with_reducible refine gate_callee (f := 16) rfl ?_); refine goesL_ (some 94) rfl rfl Tryd.func16 (by kernel_rfl) rfl #[.int .i64 (wrap64 (x8_4 - 5)), .int .u64 t228, .int .u64 t231] rfl (by (try simp only [List.map_toArray, List.map_cons, List.map_nil]); first | done | rfl | (simp only [List.length_drop, List.length_take]; rfl)) ?_; (with_reducible refine (ints_Two.calls (wrap64 (x8_4 - 5)) t228 t231 t234 t235 t236 _ A17.out).mono ?_); rintro e w31 ⟨rfl, hb⟩; refine ⟨_, rfl, ?_⟩; have n0_ := Aside0.mk (below_step (by repeat (first | (with_reducible first | exact HB.out | apply below_alloc | apply pw_below_drewN | apply below_drew1) | exact HB.out)) hb); clear HB; have HB := n0_; clear n0_; (try clear hb); (try clear hb2); (try clear hk); (try clear hi)))
                    go_ret
                    exact ⟨by first | rfl | (simp [errW_none, errW_some] <;> rfl) | (simp [*, errW_none, errW_some] <;> rfl), by repeat (first | (with_reducible first | exact HB.out | apply below_alloc | apply pw_below_drewN | apply below_drew1) | exact HB.out)⟩
                · rw [if_neg c20] at H
                  have c20b0 : (t224 == t226) = false := beq_eq_false_iff_ne.mpr c20
                  have c20b1 : (t224 != t226) = true := bne_iff_ne.mpr c20
                  exact absurd ((Option.some.inj H).trans HRT_.out) (by decide)
              · rw [if_neg c19] at H
                have c19b0 : (t221 == x11_7) = false := beq_eq_false_iff_ne.mpr c19
                have c19b1 : (t221 != x11_7) = true := bne_iff_ne.mpr c19
                exact absurd ((Option.some.inj H).trans HRT_.out) (by decide)
            · replace c18 := Bool.eq_false_iff.mpr c18
              subst c18
              have H1 : (some false) = some r := by rw [if_neg (show ¬ (false = true) by decide)] at H; exact H
              clear H
              have H := H1
              clear H1
              exact absurd ((Option.some.inj H).trans HRT_.out) (by decide)

/-- THE ONE PURE STATEMENT of avocetlaw02_IntsTurn: yours. -/
def avocetlaw02_IntsTurn.Pure : Prop := ∀ (a0 : Int) (a1 : Int) (a2 : Bool), (Lit.int .u64 a0).wf = true → (Lit.int .u64 a1).wf = true → ∃ k, avocetlaw02_IntsTurn.f k a0 a1 a2 = some true
theorem avocetlaw02_IntsTurn.walk (P : avocetlaw02_IntsTurn.Pure) (a0 : Int) (a1 : Int) (a2 : Bool) (w : World) (hG : Globs w) (w0 : (Lit.int .u64 a0).wf = true) (w1 : (Lit.int .u64 a1).wf = true) :
    Calls Tryd.prog 5 #[.int .u64 a0, .int .u64 a1, .bool a2] w fun e w' => e = .returned (.bool true) ∧ Below w.heap.size w w' := by
  obtain ⟨k, h⟩ := P a0 a1 a2 w0 w1
  refine (avocetlaw02_IntsTurn.calls k a0 a1 a2 true w hG rfl h).mono ?_
  rintro e w' ⟨rfl, hd⟩
  exact ⟨rfl, hd⟩

/-! ### avocetlaw02_IntsOrder: function 6 -/
mutual
def avocetlaw02_IntsOrder.j0 : Nat → Int → Int → Bool → Int → Option (Bool)
  | 0, _, _, _, _ => none
  | k + 1, x0, x1, x7, x8 => (ints_Two.f x8 x0 x1).bind fun bt238 => ((ints_Two.f (wrap64 (x8 + 1)) x0 x1).bind fun bt241 => (avocetlaw02_IntsOrder.l0 k x0 x1 x7 x8 bt238.1 bt241.1 2))
def avocetlaw02_IntsOrder.l0 : Nat → Int → Int → Bool → Int → Int → Int → Int → Option (Bool)
  | 0, _, _, _, _, _, _, _ => none
  | k + 1, x0, x1, x7, x8, x9, x12, x15 => if x15 < 4 then ((ints_Two.f (wrap64 (x8 + x15)) x0 x1).bind fun bt249 => ((ints_Two.f (wrap64 ((wrap64 (x8 + x15)) + 2)) x0 x1).bind fun bt252 => ((ints_Two.f (wrap64 ((wrap64 (x8 + x15)) + 4)) x0 x1).bind fun bt255 => ((ints_Two.f (wrap64 ((wrap64 (x8 + x15)) + 6)) x0 x1).bind fun bt258 => (if (IntKind.u64.wrap ((IntKind.u64.wrap (x9 + bt249.1)) + bt252.1)) = 1 then (if bt255.1 = (IntKind.u64.wrap (x9 + bt249.1)) then (if bt258.1 = (IntKind.u64.wrap (x9 + bt252.1)) then (avocetlaw02_IntsOrder.l0 k x0 x1 x7 x8 x9 x12 (wrap64 (x15 + 1))) else (some false)) else (some false)) else (some false)))))) else ((ints_One.f k (wrap64 (x8 - 1)) x0).bind fun bt244 => ((ints_Two.f x8 x0 0).bind fun bt246 => (if x7 = true then (if (IntKind.u64.wrap (x9 + x12)) = 1 then (some (bt244.1 == bt246.1)) else (some false)) else (some false))))
end
def avocetlaw02_IntsOrder.f (k : Nat) (a0 : Int) (a1 : Int) (a2 : Bool) : Option (Bool) := (avocetlaw02_awake.f k).bind fun t237 => (if a2 = true then (avocetlaw02_IntsOrder.j0 k a0 a1 t237 81) else (avocetlaw02_IntsOrder.j0 k a0 a1 t237 70))
theorem avocetlaw02_IntsOrder.mono_l : ∀ k, (∀ y0 y1 y2 y3, LeO (avocetlaw02_IntsOrder.j0 k y0 y1 y2 y3) (avocetlaw02_IntsOrder.j0 (k + 1) y0 y1 y2 y3)) ∧ (∀ y0 y1 y2 y3 y4 y5 y6, LeO (avocetlaw02_IntsOrder.l0 k y0 y1 y2 y3 y4 y5 y6) (avocetlaw02_IntsOrder.l0 (k + 1) y0 y1 y2 y3 y4 y5 y6))
  | 0 => ⟨fun _ _ _ _ r h => by simp [avocetlaw02_IntsOrder.j0] at h, fun _ _ _ _ _ _ _ r h => by simp [avocetlaw02_IntsOrder.l0] at h⟩
  | k + 1 => by
    obtain ⟨ih0, ih1⟩ := avocetlaw02_IntsOrder.mono_l k
    refine ⟨?_, ?_⟩
    · intro y0 y1 y2 y3
      unfold avocetlaw02_IntsOrder.j0
      repeat' first
      | (with_reducible exact ih0 _ _ _ _)
      | (with_reducible exact ih1 _ _ _ _ _ _ _)
      | (with_reducible exact avocetlaw02_awake.mono _)
      | (with_reducible exact ints_One.mono _ _ _)
      | (with_reducible exact LeO.refl _)
      | (with_reducible exact LeO.none _)
      | (with_reducible refine LeO.ite ?_ ?_)
      | (with_reducible refine LeO.bind ?_ (fun _ => ?_))
      | exact ih0 _ _ _ _
      | exact ih1 _ _ _ _ _ _ _
      | exact avocetlaw02_awake.mono _
      | exact ints_One.mono _ _ _
      | exact LeO.none _
      | refine LeO.ite ?_ ?_
      | refine LeO.bind ?_ (fun _ => ?_)
    · intro y0 y1 y2 y3 y4 y5 y6
      unfold avocetlaw02_IntsOrder.l0
      repeat' first
      | (with_reducible exact ih0 _ _ _ _)
      | (with_reducible exact ih1 _ _ _ _ _ _ _)
      | (with_reducible exact avocetlaw02_awake.mono _)
      | (with_reducible exact ints_One.mono _ _ _)
      | (with_reducible exact LeO.refl _)
      | (with_reducible exact LeO.none _)
      | (with_reducible refine LeO.ite ?_ ?_)
      | (with_reducible refine LeO.bind ?_ (fun _ => ?_))
      | exact ih0 _ _ _ _
      | exact ih1 _ _ _ _ _ _ _
      | exact avocetlaw02_awake.mono _
      | exact ints_One.mono _ _ _
      | exact LeO.none _
      | refine LeO.ite ?_ ?_
      | refine LeO.bind ?_ (fun _ => ?_)
theorem avocetlaw02_IntsOrder.mono : ∀ a0 a1 a2 k, LeO (avocetlaw02_IntsOrder.f k a0 a1 a2) (avocetlaw02_IntsOrder.f (k + 1) a0 a1 a2) := by
  intro a0 a1 a2 k
  obtain ⟨ih0, ih1⟩ := avocetlaw02_IntsOrder.mono_l k
  unfold avocetlaw02_IntsOrder.f
  repeat' first
      | (with_reducible exact ih0 _ _ _ _)
      | (with_reducible exact ih1 _ _ _ _ _ _ _)
      | (with_reducible exact avocetlaw02_awake.mono _)
      | (with_reducible exact ints_One.mono _ _ _)
      | (with_reducible exact LeO.refl _)
      | (with_reducible exact LeO.none _)
      | (with_reducible refine LeO.ite ?_ ?_)
      | (with_reducible refine LeO.bind ?_ (fun _ => ?_))
      | exact ih0 _ _ _ _
      | exact ih1 _ _ _ _ _ _ _
      | exact avocetlaw02_awake.mono _
      | exact ints_One.mono _ _ _
      | exact LeO.none _
      | refine LeO.ite ?_ ?_
      | refine LeO.bind ?_ (fun _ => ?_)
set_option maxHeartbeats 8000000 in
set_option maxRecDepth 100000 in
theorem avocetlaw02_IntsOrder.calls (k : Nat) (a0 : Int) (a1 : Int) (a2 : Bool) (r : Bool) (w : World) (hG : Globs w) (hr_ : r = true) (h : avocetlaw02_IntsOrder.f k a0 a1 a2 = some r) :
    Calls Tryd.prog 6 #[.int .u64 a0, .int .u64 a1, .bool a2] w fun e w' => e = .returned (.bool r) ∧ Below w.heap.size w w' := by
  have HRT_ := Aside0.mk hr_
  clear hr_
  have HG := Aside0.mk hG
  clear hG
  have HB := Aside0.mk (Below.refl w.heap.size w)
  have H : ((avocetlaw02_awake.f k).bind fun t237 => (if a2 = true then (avocetlaw02_IntsOrder.j0 k a0 a1 t237 81) else (avocetlaw02_IntsOrder.j0 k a0 a1 t237 70))) = some r := h
  clear h
  replace H := Option.bind_eq_some_iff.mp H
  obtain ⟨t237, A40, H⟩ := H
  replace H : (if a2 = true then (avocetlaw02_IntsOrder.j0 k a0 a1 t237 81) else (avocetlaw02_IntsOrder.j0 k a0 a1 t237 70)) = some r := H
  have A4 := Aside0.mk A40
  clear A40
  have HC5 := Aside0.mk H
  clear H
  go_enter Tryd.func6, Tryd.ntmps6
  go_upto_if 34 with (first | ((with_reducible refine gate_callee (f := 13) rfl ?_); refine goesL_ (some 33) rfl rfl Tryd.func13 (by kernel_rfl) rfl #[] rfl (by (try simp only [List.map_toArray, List.map_cons, List.map_nil]); first | done | rfl | (simp only [List.length_drop, List.length_take]; rfl)) ?_; (with_reducible refine (avocetlaw02_awake.calls k  t237 _ ?side1 A4.out).mono ?_); (case side1 => first | exact Globs.below HG.out HB.out | exact Globs.below HG.out (by repeat (first | (with_reducible first | exact HB.out | apply below_alloc | apply pw_below_drewN | apply below_drew1) | exact HB.out)) | (repeat (first | exact HG.out | (with_reducible refine Globs.alloc ?_ _) | (with_reducible refine Globs.drewN ?_ _) | (with_reducible refine Globs.drew ?_)))); rintro e w6 ⟨rfl, hb⟩; refine ⟨_, rfl, ?_⟩; have n0_ := Aside0.mk (below_step (by repeat (first | (with_reducible first | exact HB.out | apply below_alloc | apply pw_below_drewN | apply below_drew1) | exact HB.out)) hb); clear HB; have HB := n0_; clear n0_; (try clear hb); (try clear hb2); (try clear hk); (try clear hi)))
  (try simp only [Act.put, List.setIfInBounds_toArray, List.set_cons_zero, List.set_cons_succ])
  go_cut [8] (fun v8 wc => ∃ (kq : Nat) (x8_4 : Int), v8 = .int .i64 x8_4 ∧ Aside0 (avocetlaw02_IntsOrder.j0 kq a0 a1 t237 x8_4 = some r) ∧ Aside0 (kq ≤ k) ∧ Aside0 (Below w.heap.size w wc))
  case first =>
    have H := HC5.out
    clear HC5
    by_cases c7 : a2 = true
    · subst c7
      have H1 : (avocetlaw02_IntsOrder.j0 k a0 a1 t237 81) = some r := by rw [if_pos rfl] at H; exact H
      clear H
      have H := H1
      clear H1
      have H' := Aside0.mk H
      clear H
      go_wp2
      go_meet
      case rel => exact ⟨_, (81), (by first | rfl | (simp; done) | (simp [*]; done)), H', ⟨by first | omega | exact Nat.le_refl _⟩, ⟨by repeat (first | (with_reducible first | exact HB.out | apply below_alloc | apply pw_below_drewN | apply below_drew1) | exact HB.out)⟩⟩
    · replace c7 := Bool.eq_false_iff.mpr c7
      subst c7
      have H1 : (avocetlaw02_IntsOrder.j0 k a0 a1 t237 70) = some r := by rw [if_neg (show ¬ (false = true) by decide)] at H; exact H
      clear H
      have H := H1
      clear H1
      have H' := Aside0.mk H
      clear H
      go_wp2
      go_meet
      case rel => exact ⟨_, (70), (by first | rfl | (simp; done) | (simp [*]; done)), H', ⟨by first | omega | exact Nat.le_refl _⟩, ⟨by repeat (first | (with_reducible first | exact HB.out | apply below_alloc | apply pw_below_drewN | apply below_drew1) | exact HB.out)⟩⟩
  case rest =>
    clear HC5
    try clear c1
    try clear p2
    try clear c6
    try clear c7
    obtain ⟨kq, x8_4, rfl, HA, HJ4, HB⟩ := hcut
    cases kq with
    | zero => exact absurd HA.out (by simp [avocetlaw02_IntsOrder.j0])
    | succ kj4 =>
      have H := HA.out
      clear HA
      simp only [avocetlaw02_IntsOrder.j0] at H
      replace H := Option.bind_eq_some_iff.mp H
      obtain ⟨⟨t238, t239, t240⟩, A80, H⟩ := H
      replace H : ((ints_Two.f (wrap64 (x8_4 + 1)) a0 a1).bind fun bt241 => (avocetlaw02_IntsOrder.l0 kj4 a0 a1 t237 x8_4 t238 bt241.1 2)) = some r := H
      have A8 := Aside0.mk A80
      clear A80
      replace H := Option.bind_eq_some_iff.mp H
      obtain ⟨⟨t241, t242, t243⟩, A90, H⟩ := H
      replace H : (avocetlaw02_IntsOrder.l0 kj4 a0 a1 t237 x8_4 t238 t241 2) = some r := H
      have A9 := Aside0.mk A90
      clear A90
      have H' := Aside0.mk H
      clear H
      go_wp2_with (first | ((with_reducible refine gate_callee (f := 16) rfl ?_); refine goesL_ (some 39) rfl rfl Tryd.func16 (by kernel_rfl) rfl #[.int .i64 x8_4, .int .u64 a0, .int .u64 a1] rfl (by (try simp only [List.map_toArray, List.map_cons, List.map_nil]); first | done | rfl | (simp only [List.length_drop, List.length_take]; rfl)) ?_; (with_reducible refine (ints_Two.calls x8_4 a0 a1 t238 t239 t240 _ A8.out).mono ?_); rintro e w10 ⟨rfl, hb⟩; refine ⟨_, rfl, ?_⟩; have n0_ := Aside0.mk (below_step (by repeat (first | (with_reducible first | exact HB.out | apply below_alloc | apply pw_below_drewN | apply below_drew1) | exact HB.out)) hb); clear HB; have HB := n0_; clear n0_; (try clear hb); (try clear hb2); (try clear hk); (try clear hi)) | ((with_reducible refine gate_callee (f := 16) rfl ?_); refine goesL_ (some 48) rfl rfl Tryd.func16 (by kernel_rfl) rfl #[.int .i64 (wrap64 (x8_4 + 1)), .int .u64 a0, .int .u64 a1] rfl (by (try simp only [List.map_toArray, List.map_cons, List.map_nil]); first | done | rfl | (simp only [List.length_drop, List.length_take]; rfl)) ?_; (with_reducible refine (ints_Two.calls (wrap64 (x8_4 + 1)) a0 a1 t241 t242 t243 _ A9.out).mono ?_); rintro e w11 ⟨rfl, hb⟩; refine ⟨_, rfl, ?_⟩; have n0_ := Aside0.mk (below_step (by repeat (first | (with_reducible first | exact HB.out | apply below_alloc | apply pw_below_drewN | apply below_drew1) | exact HB.out)) hb); clear HB; have HB := n0_; clear n0_; (try clear hb); (try clear hb2); (try clear hk); (try clear hi)))
      go_loopg [15] kj4 (fun kq v15 w' => ∃ (x15_2 : Int), v15 = .int .i64 x15_2 ∧ Aside0 (avocetlaw02_IntsOrder.l0 kq a0 a1 t237 x8_4 t238 t241 x15_2 = some r) ∧ Aside0 (kq ≤ kj4) ∧ Aside0 (Below w.heap.size w w'))
      case atStart => exact ⟨(2), (by first | rfl | (simp; done) | (simp [*]; done)), H', ⟨Nat.le_refl _⟩, ⟨by repeat (first | (with_reducible first | exact HB.out | apply below_alloc | apply pw_below_drewN | apply below_drew1) | exact HB.out)⟩⟩
      case round =>
        clear H'
        try clear c1
        try clear p2
        try clear c6
        try clear p6
        try clear c7
        try clear p2
        obtain ⟨x15_2, rfl, HA, HK2, HB⟩ := hrel
        cases gk with
        | zero => exact absurd HA.out (by simp [avocetlaw02_IntsOrder.l0])
        | succ k2 =>
          have H := HA.out
          clear HA
          simp only [avocetlaw02_IntsOrder.l0] at H
          by_cases c12 : x15_2 < 4
          · rw [if_pos c12] at H
            have c12b0 : decide (x15_2 < 4) = true := decide_eq_true c12
            clear c12
            replace H := Option.bind_eq_some_iff.mp H
            obtain ⟨⟨t249, t250, t251⟩, A130, H⟩ := H
            replace H : ((ints_Two.f (wrap64 ((wrap64 (x8_4 + x15_2)) + 2)) a0 a1).bind fun bt252 => ((ints_Two.f (wrap64 ((wrap64 (x8_4 + x15_2)) + 4)) a0 a1).bind fun bt255 => ((ints_Two.f (wrap64 ((wrap64 (x8_4 + x15_2)) + 6)) a0 a1).bind fun bt258 => (if (IntKind.u64.wrap ((IntKind.u64.wrap (t238 + t249)) + bt252.1)) = 1 then (if bt255.1 = (IntKind.u64.wrap (t238 + t249)) then (if bt258.1 = (IntKind.u64.wrap (t238 + bt252.1)) then (avocetlaw02_IntsOrder.l0 k2 a0 a1 t237 x8_4 t238 t241 (wrap64 (x15_2 + 1))) else (some false)) else (some false)) else (some false))))) = some r := H
            have A13 := Aside0.mk A130
            clear A130
            replace H := Option.bind_eq_some_iff.mp H
            obtain ⟨⟨t252, t253, t254⟩, A140, H⟩ := H
            replace H : ((ints_Two.f (wrap64 ((wrap64 (x8_4 + x15_2)) + 4)) a0 a1).bind fun bt255 => ((ints_Two.f (wrap64 ((wrap64 (x8_4 + x15_2)) + 6)) a0 a1).bind fun bt258 => (if (IntKind.u64.wrap ((IntKind.u64.wrap (t238 + t249)) + t252)) = 1 then (if bt255.1 = (IntKind.u64.wrap (t238 + t249)) then (if bt258.1 = (IntKind.u64.wrap (t238 + t252)) then (avocetlaw02_IntsOrder.l0 k2 a0 a1 t237 x8_4 t238 t241 (wrap64 (x15_2 + 1))) else (some false)) else (some false)) else (some false)))) = some r := H
            have A14 := Aside0.mk A140
            clear A140
            replace H := Option.bind_eq_some_iff.mp H
            obtain ⟨⟨t255, t256, t257⟩, A150, H⟩ := H
            replace H : ((ints_Two.f (wrap64 ((wrap64 (x8_4 + x15_2)) + 6)) a0 a1).bind fun bt258 => (if (IntKind.u64.wrap ((IntKind.u64.wrap (t238 + t249)) + t252)) = 1 then (if t255 = (IntKind.u64.wrap (t238 + t249)) then (if bt258.1 = (IntKind.u64.wrap (t238 + t252)) then (avocetlaw02_IntsOrder.l0 k2 a0 a1 t237 x8_4 t238 t241 (wrap64 (x15_2 + 1))) else (some false)) else (some false)) else (some false))) = some r := H
            have A15 := Aside0.mk A150
            clear A150
            replace H := Option.bind_eq_some_iff.mp H
            obtain ⟨⟨t258, t259, t260⟩, A160, H⟩ := H
            replace H : (if (IntKind.u64.wrap ((IntKind.u64.wrap (t238 + t249)) + t252)) = 1 then (if t255 = (IntKind.u64.wrap (t238 + t249)) then (if t258 = (IntKind.u64.wrap (t238 + t252)) then (avocetlaw02_IntsOrder.l0 k2 a0 a1 t237 x8_4 t238 t241 (wrap64 (x15_2 + 1))) else (some false)) else (some false)) else (some false)) = some r := H
            have A16 := Aside0.mk A160
            clear A160
            by_cases c17 : (IntKind.u64.wrap ((IntKind.u64.wrap (t238 + t249)) + t252)) = 1
            · rw [if_pos c17] at H
              have c17b0 : ((IntKind.u64.wrap ((IntKind.u64.wrap (t238 + t249)) + t252)) == 1) = true := beq_iff_eq.mpr c17
              have c17b1 : ((IntKind.u64.wrap ((IntKind.u64.wrap (t238 + t249)) + t252)) != 1) = false := bne_eq_false_iff_eq.mpr c17
              clear c17
              by_cases c18 : t255 = (IntKind.u64.wrap (t238 + t249))
              · rw [if_pos c18] at H
                have c18b0 : (t255 == (IntKind.u64.wrap (t238 + t249))) = true := beq_iff_eq.mpr c18
                have c18b1 : (t255 != (IntKind.u64.wrap (t238 + t249))) = false := bne_eq_false_iff_eq.mpr c18
                clear c18
                by_cases c19 : t258 = (IntKind.u64.wrap (t238 + t252))
                · rw [if_pos c19] at H
                  have c19b0 : (t258 == (IntKind.u64.wrap (t238 + t252))) = true := beq_iff_eq.mpr c19
                  have c19b1 : (t258 != (IntKind.u64.wrap (t238 + t252))) = false := bne_eq_false_iff_eq.mpr c19
                  clear c19
                  have H' := Aside0.mk H
                  clear H
                  go_wp2_with (first | ((with_reducible refine gate_callee (f := 16) rfl ?_); refine goesL_ (some 62) rfl rfl Tryd.func16 (by kernel_rfl) rfl #[.int .i64 (wrap64 (x8_4 + x15_2)), .int .u64 a0, .int .u64 a1] rfl (by (try simp only [List.map_toArray, List.map_cons, List.map_nil]); first | done | rfl | (simp only [List.length_drop, List.length_take]; rfl)) ?_; (with_reducible refine (ints_Two.calls (wrap64 (x8_4 + x15_2)) a0 a1 t249 t250 t251 _ A13.out).mono ?_); rintro e w20 ⟨rfl, hb⟩; refine ⟨_, rfl, ?_⟩; have n0_ := Aside0.mk (below_step (by repeat (first | (with_reducible first | exact HB.out | apply below_alloc | apply pw_below_drewN | apply below_drew1) | exact HB.out)) hb); clear HB; have HB := n0_; clear n0_; (try clear hb); (try clear hb2); (try clear hk); (try clear hi)) | ((with_reducible refine gate_callee (f := 16) rfl ?_); refine goesL_ (some 73) rfl rfl Tryd.func16 (by kernel_rfl) rfl #[.int .i64 (wrap64 ((wrap64 (x8_4 + x15_2)) + 2)), .int .u64 a0, .int .u64 a1] rfl (by (try simp only [List.map_toArray, List.map_cons, List.map_nil]); first | done | rfl | (simp only [List.length_drop, List.length_take]; rfl)) ?_; (with_reducible refine (ints_Two.calls (wrap64 ((wrap64 (x8_4 + x15_2)) + 2)) a0 a1 t252 t253 t254 _ A14.out).mono ?_); rintro e w21 ⟨rfl, hb⟩; refine ⟨_, rfl, ?_⟩; have n0_ := Aside0.mk (below_step (by repeat (first | (with_reducible first | exact HB.out | apply below_alloc | apply pw_below_drewN | apply below_drew1) | exact HB.out)) hb); clear HB; have HB := n0_; clear n0_; (try clear hb); (try clear hb2); (try clear hk); (try clear hi)) | ((with_reducible refine gate_callee (f := 16) rfl ?_); refine goesL_ (some 84) rfl rfl Tryd.func16 (by kernel_rfl) rfl #[.int .i64 (wrap64 ((wrap64 (x8_4 + x15_2)) + 4)), .int .u64 a0, .int .u64 a1] rfl (by (try simp only [List.map_toArray, List.map_cons, List.map_nil]); first | done | rfl | (simp only [List.length_drop, List.length_take]; rfl)) ?_; (with_reducible refine (ints_Two.calls (wrap64 ((wrap64 (x8_4 + x15_2)) + 4)) a0 a1 t255 t256 t257 _ A15.out).mono ?_); rintro e w22 ⟨rfl, hb⟩; refine ⟨_, rfl, ?_⟩; have n0_ := Aside0.mk (below_step (by repeat (first | (with_reducible first | exact HB.out | apply below_alloc | apply pw_below_drewN | apply below_drew1) | exact HB.out)) hb); clear HB; have HB := n0_; clear n0_; (try clear hb); (try clear hb2); (try clear hk); (try clear hi)) | ((with_reducible refine gate_callee (f := 16) rfl ?_); refine goesL_ (some 95) rfl rfl Tryd.func16 (by kernel_rfl) rfl #[.int .i64 (wrap64 ((wrap64 (x8_4 + x15_2)) + 6)), .int .u64 a0, .int .u64 a1] rfl (by (try simp only [List.map_toArray, List.map_cons, List.map_nil]); first | done | rfl | (simp only [List.length_drop, List.length_take]; rfl)) ?_; (with_reducible refine (ints_Two.calls (wrap64 ((wrap64 (x8_4 + x15_2)) + 6)) a0 a1 t258 t259 t260 _ A16.out).mono ?_); rintro e w23 ⟨rfl, hb⟩; refine ⟨_, rfl, ?_⟩; have n0_ := Aside0.mk (below_step (by repeat (first | (with_reducible first | exact HB.out | apply below_alloc | apply pw_below_drewN | apply below_drew1) | exact HB.out)) hb); clear HB; have HB := n0_; clear n0_; (try clear hb); (try clear hb2); (try clear hk); (try clear hi)))
                  go_roundg k2
                  case measure => have := HJ4.out; have := HK2.out; omega
                  case rel => exact ⟨(wrap64 (x15_2 + 1)), (by first | rfl | (simp; done) | (simp [*]; done)), H', ⟨by have := HJ4.out; have := HK2.out; omega⟩, ⟨by repeat (first | (with_reducible first | exact HB.out | apply below_alloc | apply pw_below_drewN | apply below_drew1) | exact HB.out)⟩⟩
                · rw [if_neg c19] at H
                  have c19b0 : (t258 == (IntKind.u64.wrap (t238 + t252))) = false := beq_eq_false_iff_ne.mpr c19
                  have c19b1 : (t258 != (IntKind.u64.wrap (t238 + t252))) = true := bne_iff_ne.mpr c19
                  exact absurd ((Option.some.inj H).trans HRT_.out) (by decide)
              · rw [if_neg c18] at H
                have c18b0 : (t255 == (IntKind.u64.wrap (t238 + t249))) = false := beq_eq_false_iff_ne.mpr c18
                have c18b1 : (t255 != (IntKind.u64.wrap (t238 + t249))) = true := bne_iff_ne.mpr c18
                exact absurd ((Option.some.inj H).trans HRT_.out) (by decide)
            · rw [if_neg c17] at H
              have c17b0 : ((IntKind.u64.wrap ((IntKind.u64.wrap (t238 + t249)) + t252)) == 1) = false := beq_eq_false_iff_ne.mpr c17
              have c17b1 : ((IntKind.u64.wrap ((IntKind.u64.wrap (t238 + t249)) + t252)) != 1) = true := bne_iff_ne.mpr c17
              exact absurd ((Option.some.inj H).trans HRT_.out) (by decide)
          · rw [if_neg c12] at H
            have c12b0 : decide (x15_2 < 4) = false := decide_eq_false c12
            clear c12
            replace H := Option.bind_eq_some_iff.mp H
            obtain ⟨⟨t244, t245⟩, A240, H⟩ := H
            replace H : ((ints_Two.f x8_4 a0 0).bind fun bt246 => (if t237 = true then (if (IntKind.u64.wrap (t238 + t241)) = 1 then (some (t244 == bt246.1)) else (some false)) else (some false))) = some r := H
            have A24 := Aside0.mk A240
            clear A240
            replace H := Option.bind_eq_some_iff.mp H
            obtain ⟨⟨t246, t247, t248⟩, A250, H⟩ := H
            replace H : (if t237 = true then (if (IntKind.u64.wrap (t238 + t241)) = 1 then (some (t244 == t246)) else (some false)) else (some false)) = some r := H
            have A25 := Aside0.mk A250
            clear A250
            by_cases c26 : t237 = true
            · subst c26
              have H1 : (if (IntKind.u64.wrap (t238 + t241)) = 1 then (some (t244 == t246)) else (some false)) = some r := by rw [if_pos rfl] at H; exact H
              clear H
              have H := H1
              clear H1
              by_cases c27 : (IntKind.u64.wrap (t238 + t241)) = 1
              · rw [if_pos c27] at H
                have c27b0 : ((IntKind.u64.wrap (t238 + t241)) == 1) = true := beq_iff_eq.mpr c27
                have c27b1 : ((IntKind.u64.wrap (t238 + t241)) != 1) = false := bne_eq_false_iff_eq.mpr c27
                clear c27
                obtain rfl := Option.some.inj H
                go_wp2_with (first | ((with_reducible refine gate_callee (f := 15) rfl ?_); refine goesL_ (some 123) rfl rfl Tryd.func15 (by kernel_rfl) rfl #[.int .i64 (wrap64 (x8_4 - 1)), .int .u64 a0] rfl (by (try simp only [List.map_toArray, List.map_cons, List.map_nil]); first | done | rfl | (simp only [List.length_drop, List.length_take]; rfl)) ?_; (with_reducible refine (ints_One.calls k2 (wrap64 (x8_4 - 1)) a0 t244 t245 _ ?side1 A24.out).mono ?_); (case side1 => first | exact Globs.below HG.out HB.out | exact Globs.below HG.out (by repeat (first | (with_reducible first | exact HB.out | apply below_alloc | apply pw_below_drewN | apply below_drew1) | exact HB.out)) | (repeat (first | exact HG.out | (with_reducible refine Globs.alloc ?_ _) | (with_reducible refine Globs.drewN ?_ _) | (with_reducible refine Globs.drew ?_)))); rintro e w' ⟨rfl, ⟨nd, rfl⟩⟩; refine ⟨_, rfl, ?_⟩) | ((with_reducible refine gate_callee (f := 16) rfl ?_); refine goesL_ (some 129) rfl rfl Tryd.func16 (by kernel_rfl) rfl #[.int .i64 x8_4, .int .u64 a0, .int .u64 0] rfl (by (try simp only [List.map_toArray, List.map_cons, List.map_nil]); first | done | rfl | (simp only [List.length_drop, List.length_take]; rfl)) ?_; (with_reducible refine (ints_Two.calls x8_4 a0 0 t246 t247 t248 _ A25.out).mono ?_); rintro e w28 ⟨rfl, hb⟩; refine ⟨_, rfl, ?_⟩; have n0_ := Aside0.mk (below_step (by repeat (first | (with_reducible first | exact HB.out | apply below_alloc | apply pw_below_drewN | apply below_drew1) | exact HB.out)) hb); clear HB; have HB := n0_; clear n0_; (try clear hb); (try clear hb2); (try clear hk); (try clear hi)))
                go_ret
                exact ⟨by first | rfl | (simp [errW_none, errW_some] <;> rfl) | (simp [*, errW_none, errW_some] <;> rfl), by repeat (first | (with_reducible first | exact HB.out | apply below_alloc | apply pw_below_drewN | apply below_drew1) | exact HB.out)⟩
              · rw [if_neg c27] at H
                have c27b0 : ((IntKind.u64.wrap (t238 + t241)) == 1) = false := beq_eq_false_iff_ne.mpr c27
                have c27b1 : ((IntKind.u64.wrap (t238 + t241)) != 1) = true := bne_iff_ne.mpr c27
                exact absurd ((Option.some.inj H).trans HRT_.out) (by decide)
            · replace c26 := Bool.eq_false_iff.mpr c26
              subst c26
              have H1 : (some false) = some r := by rw [if_neg (show ¬ (false = true) by decide)] at H; exact H
              clear H
              have H := H1
              clear H1
              exact absurd ((Option.some.inj H).trans HRT_.out) (by decide)

/-- THE ONE PURE STATEMENT of avocetlaw02_IntsOrder: yours. -/
def avocetlaw02_IntsOrder.Pure : Prop := ∀ (a0 : Int) (a1 : Int) (a2 : Bool), (Lit.int .u64 a0).wf = true → (Lit.int .u64 a1).wf = true → ∃ k, avocetlaw02_IntsOrder.f k a0 a1 a2 = some true
theorem avocetlaw02_IntsOrder.walk (P : avocetlaw02_IntsOrder.Pure) (a0 : Int) (a1 : Int) (a2 : Bool) (w : World) (hG : Globs w) (w0 : (Lit.int .u64 a0).wf = true) (w1 : (Lit.int .u64 a1).wf = true) :
    Calls Tryd.prog 6 #[.int .u64 a0, .int .u64 a1, .bool a2] w fun e w' => e = .returned (.bool true) ∧ Below w.heap.size w w' := by
  obtain ⟨k, h⟩ := P a0 a1 a2 w0 w1
  refine (avocetlaw02_IntsOrder.calls k a0 a1 a2 true w hG rfl h).mono ?_
  rintro e w' ⟨rfl, hd⟩
  exact ⟨rfl, hd⟩

/-! ### avocetlaw02_IntsAlone: function 7 -/
def avocetlaw02_IntsAlone.j0 : Nat → Bool → Int → Int → Option (Bool)
  | 0, _, _, _ => none
  | k + 1, x5, x6, x7 => (ints_Two.f x6 x7 0).bind fun bt262 => ((ints_Two.f (wrap64 (x6 + 1)) x7 x7).bind fun bt265 => ((ints_Two.f (wrap64 (x6 + 2)) x7 1).bind fun bt268 => ((ints_Two.f (wrap64 (x6 + 3)) x7 1).bind fun bt271 => ((ints_Two.f (wrap64 (x6 + 4)) x7 1).bind fun bt274 => ((ints_Two.f (wrap64 (x6 + 7)) x7 x7).bind fun bt277 => ((ints_Two.f (wrap64 (x6 + 8)) x7 0).bind fun bt280 => ((ints_Two.f (wrap64 (x6 + 9)) x7 x7).bind fun bt283 => (if x5 = true then (if bt262.1 = x7 then (if bt265.1 = 0 then (if bt268.1 = x7 then (if bt271.1 = x7 then (if bt274.1 = x7 then (if bt277.1 = x7 then (if bt280.1 = x7 then (if bt283.1 = 0 then (if bt271.2.1 = 0 then (some (bt274.2.1 == 0)) else (some false)) else (some false)) else (some false)) else (some false)) else (some false)) else (some false)) else (some false)) else (some false)) else (some false)) else (some false)))))))))
def avocetlaw02_IntsAlone.f (k : Nat) (a0 : Int) (a1 : Bool) : Option (Bool) := (avocetlaw02_awake.f k).bind fun t261 => (if a1 = true then (avocetlaw02_IntsAlone.j0 k t261 124 a0) else (avocetlaw02_IntsAlone.j0 k t261 106 (Int.tmod a0 4294967296)))
theorem avocetlaw02_IntsAlone.mono_l : ∀ k, (∀ y0 y1 y2, LeO (avocetlaw02_IntsAlone.j0 k y0 y1 y2) (avocetlaw02_IntsAlone.j0 (k + 1) y0 y1 y2))
  | 0 => fun _ _ _ r h => by simp [avocetlaw02_IntsAlone.j0] at h
  | k + 1 => by
    have ih0 := avocetlaw02_IntsAlone.mono_l k
    · intro y0 y1 y2
      unfold avocetlaw02_IntsAlone.j0
      repeat' first
      | (with_reducible exact ih0 _ _ _)
      | (with_reducible exact avocetlaw02_awake.mono _)
      | (with_reducible exact LeO.refl _)
      | (with_reducible exact LeO.none _)
      | (with_reducible refine LeO.ite ?_ ?_)
      | (with_reducible refine LeO.bind ?_ (fun _ => ?_))
      | exact ih0 _ _ _
      | exact avocetlaw02_awake.mono _
      | exact LeO.none _
      | refine LeO.ite ?_ ?_
      | refine LeO.bind ?_ (fun _ => ?_)
theorem avocetlaw02_IntsAlone.mono : ∀ a0 a1 k, LeO (avocetlaw02_IntsAlone.f k a0 a1) (avocetlaw02_IntsAlone.f (k + 1) a0 a1) := by
  intro a0 a1 k
  have ih0 := avocetlaw02_IntsAlone.mono_l k
  unfold avocetlaw02_IntsAlone.f
  repeat' first
      | (with_reducible exact ih0 _ _ _)
      | (with_reducible exact avocetlaw02_awake.mono _)
      | (with_reducible exact LeO.refl _)
      | (with_reducible exact LeO.none _)
      | (with_reducible refine LeO.ite ?_ ?_)
      | (with_reducible refine LeO.bind ?_ (fun _ => ?_))
      | exact ih0 _ _ _
      | exact avocetlaw02_awake.mono _
      | exact LeO.none _
      | refine LeO.ite ?_ ?_
      | refine LeO.bind ?_ (fun _ => ?_)
set_option maxHeartbeats 8000000 in
set_option maxRecDepth 100000 in
theorem avocetlaw02_IntsAlone.calls (k : Nat) (a0 : Int) (a1 : Bool) (r : Bool) (w : World) (hG : Globs w) (hr_ : r = true) (h : avocetlaw02_IntsAlone.f k a0 a1 = some r) :
    Calls Tryd.prog 7 #[.int .u64 a0, .bool a1] w fun e w' => e = .returned (.bool r) ∧ Below w.heap.size w w' := by
  have HRT_ := Aside0.mk hr_
  clear hr_
  have HG := Aside0.mk hG
  clear hG
  have HB := Aside0.mk (Below.refl w.heap.size w)
  have H : ((avocetlaw02_awake.f k).bind fun t261 => (if a1 = true then (avocetlaw02_IntsAlone.j0 k t261 124 a0) else (avocetlaw02_IntsAlone.j0 k t261 106 (Int.tmod a0 4294967296)))) = some r := h
  clear h
  replace H := Option.bind_eq_some_iff.mp H
  obtain ⟨t261, A30, H⟩ := H
  replace H : (if a1 = true then (avocetlaw02_IntsAlone.j0 k t261 124 a0) else (avocetlaw02_IntsAlone.j0 k t261 106 (Int.tmod a0 4294967296))) = some r := H
  have A3 := Aside0.mk A30
  clear A30
  have HC4 := Aside0.mk H
  clear H
  go_enter Tryd.func7, Tryd.ntmps7
  go_upto_if 35 with (first | ((with_reducible refine gate_callee (f := 13) rfl ?_); refine goesL_ (some 32) rfl rfl Tryd.func13 (by kernel_rfl) rfl #[] rfl (by (try simp only [List.map_toArray, List.map_cons, List.map_nil]); first | done | rfl | (simp only [List.length_drop, List.length_take]; rfl)) ?_; (with_reducible refine (avocetlaw02_awake.calls k  t261 _ ?side1 A3.out).mono ?_); (case side1 => first | exact Globs.below HG.out HB.out | exact Globs.below HG.out (by repeat (first | (with_reducible first | exact HB.out | apply below_alloc | apply pw_below_drewN | apply below_drew1) | exact HB.out)) | (repeat (first | exact HG.out | (with_reducible refine Globs.alloc ?_ _) | (with_reducible refine Globs.drewN ?_ _) | (with_reducible refine Globs.drew ?_)))); rintro e w5 ⟨rfl, hb⟩; refine ⟨_, rfl, ?_⟩; have n0_ := Aside0.mk (below_step (by repeat (first | (with_reducible first | exact HB.out | apply below_alloc | apply pw_below_drewN | apply below_drew1) | exact HB.out)) hb); clear HB; have HB := n0_; clear n0_; (try clear hb); (try clear hb2); (try clear hk); (try clear hi)))
  (try simp only [Act.put, List.setIfInBounds_toArray, List.set_cons_zero, List.set_cons_succ])
  go_cut [6, 7] (fun v6 v7 wc => ∃ (kq : Nat) (x6_3 : Int) (x7_3 : Int), v6 = .int .i64 x6_3 ∧ v7 = .int .u64 x7_3 ∧ Aside0 (avocetlaw02_IntsAlone.j0 kq t261 x6_3 x7_3 = some r) ∧ Aside0 (kq ≤ k) ∧ Aside0 (Below w.heap.size w wc))
  case first =>
    have H := HC4.out
    clear HC4
    by_cases c6 : a1 = true
    · subst c6
      have H1 : (avocetlaw02_IntsAlone.j0 k t261 124 a0) = some r := by rw [if_pos rfl] at H; exact H
      clear H
      have H := H1
      clear H1
      have H' := Aside0.mk H
      clear H
      go_wp2
      go_meet
      case rel => exact ⟨_, (124), (a0), (by first | rfl | (simp; done) | (simp [*]; done)), (by first | rfl | (simp; done) | (simp [*]; done)), H', ⟨by first | omega | exact Nat.le_refl _⟩, ⟨by repeat (first | (with_reducible first | exact HB.out | apply below_alloc | apply pw_below_drewN | apply below_drew1) | exact HB.out)⟩⟩
    · replace c6 := Bool.eq_false_iff.mpr c6
      subst c6
      have H1 : (avocetlaw02_IntsAlone.j0 k t261 106 (Int.tmod a0 4294967296)) = some r := by rw [if_neg (show ¬ (false = true) by decide)] at H; exact H
      clear H
      have H := H1
      clear H1
      have H' := Aside0.mk H
      clear H
      go_wp2
      go_meet
      case rel => exact ⟨_, (106), (Int.tmod a0 4294967296), (by first | rfl | (simp; done) | (simp [*]; done)), (by first | rfl | (simp; done) | (simp [*]; done)), H', ⟨by first | omega | exact Nat.le_refl _⟩, ⟨by repeat (first | (with_reducible first | exact HB.out | apply below_alloc | apply pw_below_drewN | apply below_drew1) | exact HB.out)⟩⟩
  case rest =>
    clear HC4
    try clear c1
    try clear p2
    try clear c6
    obtain ⟨kq, x6_3, x7_3, rfl, rfl, HA, HJ3, HB⟩ := hcut
    cases kq with
    | zero => exact absurd HA.out (by simp [avocetlaw02_IntsAlone.j0])
    | succ kj3 =>
      have H := HA.out
      clear HA
      simp only [avocetlaw02_IntsAlone.j0] at H
      replace H := Option.bind_eq_some_iff.mp H
      obtain ⟨⟨t262, t263, t264⟩, A70, H⟩ := H
      replace H : ((ints_Two.f (wrap64 (x6_3 + 1)) x7_3 x7_3).bind fun bt265 => ((ints_Two.f (wrap64 (x6_3 + 2)) x7_3 1).bind fun bt268 => ((ints_Two.f (wrap64 (x6_3 + 3)) x7_3 1).bind fun bt271 => ((ints_Two.f (wrap64 (x6_3 + 4)) x7_3 1).bind fun bt274 => ((ints_Two.f (wrap64 (x6_3 + 7)) x7_3 x7_3).bind fun bt277 => ((ints_Two.f (wrap64 (x6_3 + 8)) x7_3 0).bind fun bt280 => ((ints_Two.f (wrap64 (x6_3 + 9)) x7_3 x7_3).bind fun bt283 => (if t261 = true then (if t262 = x7_3 then (if bt265.1 = 0 then (if bt268.1 = x7_3 then (if bt271.1 = x7_3 then (if bt274.1 = x7_3 then (if bt277.1 = x7_3 then (if bt280.1 = x7_3 then (if bt283.1 = 0 then (if bt271.2.1 = 0 then (some (bt274.2.1 == 0)) else (some false)) else (some false)) else (some false)) else (some false)) else (some false)) else (some false)) else (some false)) else (some false)) else (some false)) else (some false))))))))) = some r := H
      have A7 := Aside0.mk A70
      clear A70
      replace H := Option.bind_eq_some_iff.mp H
      obtain ⟨⟨t265, t266, t267⟩, A80, H⟩ := H
      replace H : ((ints_Two.f (wrap64 (x6_3 + 2)) x7_3 1).bind fun bt268 => ((ints_Two.f (wrap64 (x6_3 + 3)) x7_3 1).bind fun bt271 => ((ints_Two.f (wrap64 (x6_3 + 4)) x7_3 1).bind fun bt274 => ((ints_Two.f (wrap64 (x6_3 + 7)) x7_3 x7_3).bind fun bt277 => ((ints_Two.f (wrap64 (x6_3 + 8)) x7_3 0).bind fun bt280 => ((ints_Two.f (wrap64 (x6_3 + 9)) x7_3 x7_3).bind fun bt283 => (if t261 = true then (if t262 = x7_3 then (if t265 = 0 then (if bt268.1 = x7_3 then (if bt271.1 = x7_3 then (if bt274.1 = x7_3 then (if bt277.1 = x7_3 then (if bt280.1 = x7_3 then (if bt283.1 = 0 then (if bt271.2.1 = 0 then (some (bt274.2.1 == 0)) else (some false)) else (some false)) else (some false)) else (some false)) else (some false)) else (some false)) else (some false)) else (some false)) else (some false)) else (some false)))))))) = some r := H
      have A8 := Aside0.mk A80
      clear A80
      replace H := Option.bind_eq_some_iff.mp H
      obtain ⟨⟨t268, t269, t270⟩, A90, H⟩ := H
      replace H : ((ints_Two.f (wrap64 (x6_3 + 3)) x7_3 1).bind fun bt271 => ((ints_Two.f (wrap64 (x6_3 + 4)) x7_3 1).bind fun bt274 => ((ints_Two.f (wrap64 (x6_3 + 7)) x7_3 x7_3).bind fun bt277 => ((ints_Two.f (wrap64 (x6_3 + 8)) x7_3 0).bind fun bt280 => ((ints_Two.f (wrap64 (x6_3 + 9)) x7_3 x7_3).bind fun bt283 => (if t261 = true then (if t262 = x7_3 then (if t265 = 0 then (if t268 = x7_3 then (if bt271.1 = x7_3 then (if bt274.1 = x7_3 then (if bt277.1 = x7_3 then (if bt280.1 = x7_3 then (if bt283.1 = 0 then (if bt271.2.1 = 0 then (some (bt274.2.1 == 0)) else (some false)) else (some false)) else (some false)) else (some false)) else (some false)) else (some false)) else (some false)) else (some false)) else (some false)) else (some false))))))) = some r := H
      have A9 := Aside0.mk A90
      clear A90
      replace H := Option.bind_eq_some_iff.mp H
      obtain ⟨⟨t271, t272, t273⟩, A100, H⟩ := H
      replace H : ((ints_Two.f (wrap64 (x6_3 + 4)) x7_3 1).bind fun bt274 => ((ints_Two.f (wrap64 (x6_3 + 7)) x7_3 x7_3).bind fun bt277 => ((ints_Two.f (wrap64 (x6_3 + 8)) x7_3 0).bind fun bt280 => ((ints_Two.f (wrap64 (x6_3 + 9)) x7_3 x7_3).bind fun bt283 => (if t261 = true then (if t262 = x7_3 then (if t265 = 0 then (if t268 = x7_3 then (if t271 = x7_3 then (if bt274.1 = x7_3 then (if bt277.1 = x7_3 then (if bt280.1 = x7_3 then (if bt283.1 = 0 then (if t272 = 0 then (some (bt274.2.1 == 0)) else (some false)) else (some false)) else (some false)) else (some false)) else (some false)) else (some false)) else (some false)) else (some false)) else (some false)) else (some false)))))) = some r := H
      have A10 := Aside0.mk A100
      clear A100
      replace H := Option.bind_eq_some_iff.mp H
      obtain ⟨⟨t274, t275, t276⟩, A110, H⟩ := H
      replace H : ((ints_Two.f (wrap64 (x6_3 + 7)) x7_3 x7_3).bind fun bt277 => ((ints_Two.f (wrap64 (x6_3 + 8)) x7_3 0).bind fun bt280 => ((ints_Two.f (wrap64 (x6_3 + 9)) x7_3 x7_3).bind fun bt283 => (if t261 = true then (if t262 = x7_3 then (if t265 = 0 then (if t268 = x7_3 then (if t271 = x7_3 then (if t274 = x7_3 then (if bt277.1 = x7_3 then (if bt280.1 = x7_3 then (if bt283.1 = 0 then (if t272 = 0 then (some (t275 == 0)) else (some false)) else (some false)) else (some false)) else (some false)) else (some false)) else (some false)) else (some false)) else (some false)) else (some false)) else (some false))))) = some r := H
      have A11 := Aside0.mk A110
      clear A110
      replace H := Option.bind_eq_some_iff.mp H
      obtain ⟨⟨t277, t278, t279⟩, A120, H⟩ := H
      replace H : ((ints_Two.f (wrap64 (x6_3 + 8)) x7_3 0).bind fun bt280 => ((ints_Two.f (wrap64 (x6_3 + 9)) x7_3 x7_3).bind fun bt283 => (if t261 = true then (if t262 = x7_3 then (if t265 = 0 then (if t268 = x7_3 then (if t271 = x7_3 then (if t274 = x7_3 then (if t277 = x7_3 then (if bt280.1 = x7_3 then (if bt283.1 = 0 then (if t272 = 0 then (some (t275 == 0)) else (some false)) else (some false)) else (some false)) else (some false)) else (some false)) else (some false)) else (some false)) else (some false)) else (some false)) else (some false)))) = some r := H
      have A12 := Aside0.mk A120
      clear A120
      replace H := Option.bind_eq_some_iff.mp H
      obtain ⟨⟨t280, t281, t282⟩, A130, H⟩ := H
      replace H : ((ints_Two.f (wrap64 (x6_3 + 9)) x7_3 x7_3).bind fun bt283 => (if t261 = true then (if t262 = x7_3 then (if t265 = 0 then (if t268 = x7_3 then (if t271 = x7_3 then (if t274 = x7_3 then (if t277 = x7_3 then (if t280 = x7_3 then (if bt283.1 = 0 then (if t272 = 0 then (some (t275 == 0)) else (some false)) else (some false)) else (some false)) else (some false)) else (some false)) else (some false)) else (some false)) else (some false)) else (some false)) else (some false))) = some r := H
      have A13 := Aside0.mk A130
      clear A130
      replace H := Option.bind_eq_some_iff.mp H
      obtain ⟨⟨t283, t284, t285⟩, A140, H⟩ := H
      replace H : (if t261 = true then (if t262 = x7_3 then (if t265 = 0 then (if t268 = x7_3 then (if t271 = x7_3 then (if t274 = x7_3 then (if t277 = x7_3 then (if t280 = x7_3 then (if t283 = 0 then (if t272 = 0 then (some (t275 == 0)) else (some false)) else (some false)) else (some false)) else (some false)) else (some false)) else (some false)) else (some false)) else (some false)) else (some false)) else (some false)) = some r := H
      have A14 := Aside0.mk A140
      clear A140
      by_cases c15 : t261 = true
      · subst c15
        have H1 : (if t262 = x7_3 then (if t265 = 0 then (if t268 = x7_3 then (if t271 = x7_3 then (if t274 = x7_3 then (if t277 = x7_3 then (if t280 = x7_3 then (if t283 = 0 then (if t272 = 0 then (some (t275 == 0)) else (some false)) else (some false)) else (some false)) else (some false)) else (some false)) else (some false)) else (some false)) else (some false)) else (some false)) = some r := by rw [if_pos rfl] at H; exact H
        clear H
        have H := H1
        clear H1
        by_cases c16 : t262 = x7_3
        · rw [if_pos c16] at H
          have c16b0 : (t262 == x7_3) = true := beq_iff_eq.mpr c16
          have c16b1 : (t262 != x7_3) = false := bne_eq_false_iff_eq.mpr c16
          clear c16
          by_cases c17 : t265 = 0
          · rw [if_pos c17] at H
            have c17b0 : (t265 == 0) = true := beq_iff_eq.mpr c17
            have c17b1 : (t265 != 0) = false := bne_eq_false_iff_eq.mpr c17
            clear c17
            by_cases c18 : t268 = x7_3
            · rw [if_pos c18] at H
              have c18b0 : (t268 == x7_3) = true := beq_iff_eq.mpr c18
              have c18b1 : (t268 != x7_3) = false := bne_eq_false_iff_eq.mpr c18
              clear c18
              by_cases c19 : t271 = x7_3
              · rw [if_pos c19] at H
                have c19b0 : (t271 == x7_3) = true := beq_iff_eq.mpr c19
                have c19b1 : (t271 != x7_3) = false := bne_eq_false_iff_eq.mpr c19
                clear c19
                by_cases c20 : t274 = x7_3
                · rw [if_pos c20] at H
                  have c20b0 : (t274 == x7_3) = true := beq_iff_eq.mpr c20
                  have c20b1 : (t274 != x7_3) = false := bne_eq_false_iff_eq.mpr c20
                  clear c20
                  by_cases c21 : t277 = x7_3
                  · rw [if_pos c21] at H
                    have c21b0 : (t277 == x7_3) = true := beq_iff_eq.mpr c21
                    have c21b1 : (t277 != x7_3) = false := bne_eq_false_iff_eq.mpr c21
                    clear c21
                    by_cases c22 : t280 = x7_3
                    · rw [if_pos c22] at H
                      have c22b0 : (t280 == x7_3) = true := beq_iff_eq.mpr c22
                      have c22b1 : (t280 != x7_3) = false := bne_eq_false_iff_eq.mpr c22
                      clear c22
                      by_cases c23 : t283 = 0
                      · rw [if_pos c23] at H
                        have c23b0 : (t283 == 0) = true := beq_iff_eq.mpr c23
                        have c23b1 : (t283 != 0) = false := bne_eq_false_iff_eq.mpr c23
                        clear c23
                        by_cases c24 : t272 = 0
                        · rw [if_pos c24] at H
                          have c24b0 : (t272 == 0) = true := beq_iff_eq.mpr c24
                          have c24b1 : (t272 != 0) = false := bne_eq_false_iff_eq.mpr c24
                          clear c24
                          obtain rfl := Option.some.inj H
                          go_wp2_with (first | ((with_reducible refine gate_callee (f := 16) rfl ?_); refine goesL_ (some 40) rfl rfl Tryd.func16 (by kernel_rfl) rfl #[.int .i64 x6_3, .int .u64 x7_3, .int .u64 0] rfl (by (try simp only [List.map_toArray, List.map_cons, List.map_nil]); first | done | rfl | (simp only [List.length_drop, List.length_take]; rfl)) ?_; (with_reducible refine (ints_Two.calls x6_3 x7_3 0 t262 t263 t264 _ A7.out).mono ?_); rintro e w25 ⟨rfl, hb⟩; refine ⟨_, rfl, ?_⟩; have n0_ := Aside0.mk (below_step (by repeat (first | (with_reducible first | exact HB.out | apply below_alloc | apply pw_below_drewN | apply below_drew1) | exact HB.out)) hb); clear HB; have HB := n0_; clear n0_; (try clear hb); (try clear hb2); (try clear hk); (try clear hi)) | ((with_reducible refine gate_callee (f := 16) rfl ?_); refine goesL_ (some 49) rfl rfl Tryd.func16 (by kernel_rfl) rfl #[.int .i64 (wrap64 (x6_3 + 1)), .int .u64 x7_3, .int .u64 x7_3] rfl (by (try simp only [List.map_toArray, List.map_cons, List.map_nil]); first | done | rfl | (simp only [List.length_drop, List.length_take]; rfl)) ?_; (with_reducible refine (ints_Two.calls (wrap64 (x6_3 + 1)) x7_3 x7_3 t265 t266 t267 _ A8.out).mono ?_); rintro e w26 ⟨rfl, hb⟩; refine ⟨_, rfl, ?_⟩; have n0_ := Aside0.mk (below_step (by repeat (first | (with_reducible first | exact HB.out | apply below_alloc | apply pw_below_drewN | apply below_drew1) | exact HB.out)) hb); clear HB; have HB := n0_; clear n0_; (try clear hb); (try clear hb2); (try clear hk); (try clear hi)) | ((with_reducible refine gate_callee (f := 16) rfl ?_); refine goesL_ (some 57) rfl rfl Tryd.func16 (by kernel_rfl) rfl #[.int .i64 (wrap64 (x6_3 + 2)), .int .u64 x7_3, .int .u64 1] rfl (by (try simp only [List.map_toArray, List.map_cons, List.map_nil]); first | done | rfl | (simp only [List.length_drop, List.length_take]; rfl)) ?_; (with_reducible refine (ints_Two.calls (wrap64 (x6_3 + 2)) x7_3 1 t268 t269 t270 _ A9.out).mono ?_); rintro e w27 ⟨rfl, hb⟩; refine ⟨_, rfl, ?_⟩; have n0_ := Aside0.mk (below_step (by repeat (first | (with_reducible first | exact HB.out | apply below_alloc | apply pw_below_drewN | apply below_drew1) | exact HB.out)) hb); clear HB; have HB := n0_; clear n0_; (try clear hb); (try clear hb2); (try clear hk); (try clear hi)) | ((with_reducible refine gate_callee (f := 16) rfl ?_); refine goesL_ (some 65) rfl rfl Tryd.func16 (by kernel_rfl) rfl #[.int .i64 (wrap64 (x6_3 + 3)), .int .u64 x7_3, .int .u64 1] rfl (by (try simp only [List.map_toArray, List.map_cons, List.map_nil]); first | done | rfl | (simp only [List.length_drop, List.length_take]; rfl)) ?_; (with_reducible refine (ints_Two.calls (wrap64 (x6_3 + 3)) x7_3 1 t271 t272 t273 _ A10.out).mono ?_); rintro e w28 ⟨rfl, hb⟩; refine ⟨_, rfl, ?_⟩; have n0_ := Aside0.mk (below_step (by repeat (first | (with_reducible first | exact HB.out | apply below_alloc | apply pw_below_drewN | apply below_drew1) | exact HB.out)) hb); clear HB; have HB := n0_; clear n0_; (try clear hb); (try clear hb2); (try clear hk); (try clear hi)) | ((with_reducible refine gate_callee (f := 16) rfl ?_); refine goesL_ (some 73) rfl rfl Tryd.func16 (by kernel_rfl) rfl #[.int .i64 (wrap64 (x6_3 + 4)), .int .u64 x7_3, .int .u64 1] rfl (by (try simp only [List.map_toArray, List.map_cons, List.map_nil]); first | done | rfl | (simp only [List.length_drop, List.length_take]; rfl)) ?_; (with_reducible refine (ints_Two.calls (wrap64 (x6_3 + 4)) x7_3 1 t274 t275 t276 _ A11.out).mono ?_); rintro e w29 ⟨rfl, hb⟩; refine ⟨_, rfl, ?_⟩; have n0_ := Aside0.mk (below_step (by repeat (first | (with_reducible first | exact HB.out | apply below_alloc | apply pw_below_drewN | apply below_drew1) | exact HB.out)) hb); clear HB; have HB := n0_; clear n0_; (try clear hb); (try clear hb2); (try clear hk); (try clear hi)) | ((with_reducible refine gate_callee (f := 16) rfl ?_); refine goesL_ (some 82) rfl rfl Tryd.func16 (by kernel_rfl) rfl #[.int .i64 (wrap64 (x6_3 + 7)), .int .u64 x7_3, .int .u64 x7_3] rfl (by (try simp only [List.map_toArray, List.map_cons, List.map_nil]); first | done | rfl | (simp only [List.length_drop, List.length_take]; rfl)) ?_; (with_reducible refine (ints_Two.calls (wrap64 (x6_3 + 7)) x7_3 x7_3 t277 t278 t279 _ A12.out).mono ?_); rintro e w30 ⟨rfl, hb⟩; refine ⟨_, rfl, ?_⟩; have n0_ := Aside0.mk (below_step (by repeat (first | (with_reducible first | exact HB.out | apply below_alloc | apply pw_below_drewN | apply below_drew1) | exact HB.out)) hb); clear HB; have HB := n0_; clear n0_; (try clear hb); (try clear hb2); (try clear hk); (try clear hi)) | ((with_reducible refine gate_callee (f := 16) rfl ?_); refine goesL_ (some 90) rfl rfl Tryd.func16 (by kernel_rfl) rfl #[.int .i64 (wrap64 (x6_3 + 8)), .int .u64 x7_3, .int .u64 0] rfl (by (try simp only [List.map_toArray, List.map_cons, List.map_nil]); first | done | rfl | (simp only [List.length_drop, List.length_take]; rfl)) ?_; (with_reducible refine (ints_Two.calls (wrap64 (x6_3 + 8)) x7_3 0 t280 t281 t282 _ A13.out).mono ?_); rintro e w31 ⟨rfl, hb⟩; refine ⟨_, rfl, ?_⟩; have n0_ := Aside0.mk (below_step (by repeat (first | (with_reducible first | exact HB.out | apply below_alloc | apply pw_below_drewN | apply below_drew1) | exact HB.out)) hb); clear HB; have HB := n0_; clear n0_; (try clear hb); (try clear hb2); (try clear hk); (try clear hi)) | ((with_reducible refine gate_callee (f := 16) rfl ?_); refine goesL_ (some 99) rfl rfl Tryd.func16 (by kernel_rfl) rfl #[.int .i64 (wrap64 (x6_3 + 9)), .int .u64 x7_3, .int .u64 x7_3] rfl (by (try simp only [List.map_toArray, List.map_cons, List.map_nil]); first | done | rfl | (simp only [List.length_drop, List.length_take]; rfl)) ?_; (with_reducible refine (ints_Two.calls (wrap64 (x6_3 + 9)) x7_3 x7_3 t283 t284 t285 _ A14.out).mono ?_); rintro e w32 ⟨rfl, hb⟩; refine ⟨_, rfl, ?_⟩; have n0_ := Aside0.mk (below_step (by repeat (first | (with_reducible first | exact HB.out | apply below_alloc | apply pw_below_drewN | apply below_drew1) | exact HB.out)) hb); clear HB; have HB := n0_; clear n0_; (try clear hb); (try clear hb2); (try clear hk); (try clear hi)))
                          go_ret
                          exact ⟨by first | rfl | (simp [errW_none, errW_some] <;> rfl) | (simp [*, errW_none, errW_some] <;> rfl), by repeat (first | (with_reducible first | exact HB.out | apply below_alloc | apply pw_below_drewN | apply below_drew1) | exact HB.out)⟩
                        · rw [if_neg c24] at H
                          have c24b0 : (t272 == 0) = false := beq_eq_false_iff_ne.mpr c24
                          have c24b1 : (t272 != 0) = true := bne_iff_ne.mpr c24
                          exact absurd ((Option.some.inj H).trans HRT_.out) (by decide)
                      · rw [if_neg c23] at H
                        have c23b0 : (t283 == 0) = false := beq_eq_false_iff_ne.mpr c23
                        have c23b1 : (t283 != 0) = true := bne_iff_ne.mpr c23
                        exact absurd ((Option.some.inj H).trans HRT_.out) (by decide)
                    · rw [if_neg c22] at H
                      have c22b0 : (t280 == x7_3) = false := beq_eq_false_iff_ne.mpr c22
                      have c22b1 : (t280 != x7_3) = true := bne_iff_ne.mpr c22
                      exact absurd ((Option.some.inj H).trans HRT_.out) (by decide)
                  · rw [if_neg c21] at H
                    have c21b0 : (t277 == x7_3) = false := beq_eq_false_iff_ne.mpr c21
                    have c21b1 : (t277 != x7_3) = true := bne_iff_ne.mpr c21
                    exact absurd ((Option.some.inj H).trans HRT_.out) (by decide)
                · rw [if_neg c20] at H
                  have c20b0 : (t274 == x7_3) = false := beq_eq_false_iff_ne.mpr c20
                  have c20b1 : (t274 != x7_3) = true := bne_iff_ne.mpr c20
                  exact absurd ((Option.some.inj H).trans HRT_.out) (by decide)
              · rw [if_neg c19] at H
                have c19b0 : (t271 == x7_3) = false := beq_eq_false_iff_ne.mpr c19
                have c19b1 : (t271 != x7_3) = true := bne_iff_ne.mpr c19
                exact absurd ((Option.some.inj H).trans HRT_.out) (by decide)
            · rw [if_neg c18] at H
              have c18b0 : (t268 == x7_3) = false := beq_eq_false_iff_ne.mpr c18
              have c18b1 : (t268 != x7_3) = true := bne_iff_ne.mpr c18
              exact absurd ((Option.some.inj H).trans HRT_.out) (by decide)
          · rw [if_neg c17] at H
            have c17b0 : (t265 == 0) = false := beq_eq_false_iff_ne.mpr c17
            have c17b1 : (t265 != 0) = true := bne_iff_ne.mpr c17
            exact absurd ((Option.some.inj H).trans HRT_.out) (by decide)
        · rw [if_neg c16] at H
          have c16b0 : (t262 == x7_3) = false := beq_eq_false_iff_ne.mpr c16
          have c16b1 : (t262 != x7_3) = true := bne_iff_ne.mpr c16
          exact absurd ((Option.some.inj H).trans HRT_.out) (by decide)
      · replace c15 := Bool.eq_false_iff.mpr c15
        subst c15
        have H1 : (some false) = some r := by rw [if_neg (show ¬ (false = true) by decide)] at H; exact H
        clear H
        have H := H1
        clear H1
        exact absurd ((Option.some.inj H).trans HRT_.out) (by decide)

/-- THE ONE PURE STATEMENT of avocetlaw02_IntsAlone: yours. -/
def avocetlaw02_IntsAlone.Pure : Prop := ∀ (a0 : Int) (a1 : Bool), (Lit.int .u64 a0).wf = true → ∃ k, avocetlaw02_IntsAlone.f k a0 a1 = some true
theorem avocetlaw02_IntsAlone.walk (P : avocetlaw02_IntsAlone.Pure) (a0 : Int) (a1 : Bool) (w : World) (hG : Globs w) (w0 : (Lit.int .u64 a0).wf = true) :
    Calls Tryd.prog 7 #[.int .u64 a0, .bool a1] w fun e w' => e = .returned (.bool true) ∧ Below w.heap.size w w' := by
  obtain ⟨k, h⟩ := P a0 a1 w0
  refine (avocetlaw02_IntsAlone.calls k a0 a1 true w hG rfl h).mono ?_
  rintro e w' ⟨rfl, hd⟩
  exact ⟨rfl, hd⟩

end Go.Proofs.YtjonlcnmpejamaaDoor.G
