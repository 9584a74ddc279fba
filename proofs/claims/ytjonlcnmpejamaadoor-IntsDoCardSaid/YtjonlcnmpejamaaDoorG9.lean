-- Made by gprint.py (mine) over the kit's print.py, out of the translation; parts of it typed by hand.
import Derived.Test.YtjonlcnmpejamaaDoorG0
import Derived.Test.YtjonlcnmpejamaaDoorG1
import Derived.Test.YtjonlcnmpejamaaDoorG2
import Derived.Test.YtjonlcnmpejamaaDoorG4
import Derived.Test.YtjonlcnmpejamaaDoorG8
namespace Go.Proofs.YtjonlcnmpejamaaDoor.G
open Go.RowKit Go.Proofs.YtjonlcnmpejamaaDoorW.PrintWords Go.Proofs.YtjonlcnmpejamaaDoorW.PrintLast Go.Proofs.YtjonlcnmpejamaaDoorW.PrintMore
attribute [local go_sem] max2_int min2_int max_two min_two max_three min_three max_four min_four   -- for this text's walks alone
set_option linter.unusedVariables false
set_option linter.unusedSimpArgs false

/-! ### avocetlaw02_IntsDivide: function 9 -/
mutual
def avocetlaw02_IntsDivide.j0 : Nat → Int → Int → Bool → Bool → Int → Int → Int → Option (Bool)
  | 0, _, _, _, _, _, _, _ => none
  | k + 1, x0, x1, x3, x9, x10, x11, x12 => if x3 = true then (avocetlaw02_IntsDivide.j1 k x0 x1 x3 x9 (wrap64 (x10 - 1)) x11 x12) else (avocetlaw02_IntsDivide.j1 k x0 x1 x3 x9 x10 x11 x12)
def avocetlaw02_IntsDivide.j1 : Nat → Int → Int → Bool → Bool → Int → Int → Int → Option (Bool)
  | 0, _, _, _, _, _, _, _ => none
  | k + 1, x0, x1, x3, x9, x10, x11, x12 => (ints_Value.f x11 (wrap64 (x0))).bind fun t307 => ((ints_Value.f x11 (wrap64 (x1))).bind fun t308 => ((ints_Two.f x10 t307 t308).bind fun bt309 => ((ints_Two.f (wrap64 (x10 + 2)) t307 t308).bind fun bt312 => (if t308 = 0 then (if x9 = true then (if bt309.2.1 = 2 then (some (bt312.2.1 == 2)) else (some false)) else (some false)) else (if x3 = true then (if t307 = x12 then ((ints_Signed.f x11 t308).bind fun t315 => (avocetlaw02_IntsDivide.j2 k x3 x9 x10 x11 t307 t308 bt309.1 bt309.2.1 bt312.1 bt312.2.1 (t315 == (-1)))) else (avocetlaw02_IntsDivide.j2 k x3 x9 x10 x11 t307 t308 bt309.1 bt309.2.1 bt312.1 bt312.2.1 false)) else (avocetlaw02_IntsDivide.j2 k x3 x9 x10 x11 t307 t308 bt309.1 bt309.2.1 bt312.1 bt312.2.1 false))))))
def avocetlaw02_IntsDivide.j2 : Nat → Bool → Bool → Int → Int → Int → Int → Int → Int → Int → Int → Bool → Option (Bool)
  | 0, _, _, _, _, _, _, _, _, _, _, _ => none
  | k + 1, x3, x9, x10, x11, x13, x14, x15, x16, x18, x19, x80 => if x80 = true then (if x9 = true then (if x16 = 3 then (if x19 = 0 then (some (x18 == 0)) else (some false)) else (some false)) else (some false)) else (if x3 = true then (avocetlaw02_IntsDivide.j3 k x3 x9 x11 x13 x14 x15 x16 x18 x19 (wrap64 (x10 - 1))) else (avocetlaw02_IntsDivide.j3 k x3 x9 x11 x13 x14 x15 x16 x18 x19 (wrap64 ((wrap64 (x10 - 1)) - 1))))
def avocetlaw02_IntsDivide.j3 : Nat → Bool → Bool → Int → Int → Int → Int → Int → Int → Int → Int → Option (Bool)
  | 0, _, _, _, _, _, _, _, _, _, _ => none
  | k + 1, x3, x9, x11, x13, x14, x15, x16, x18, x19, x21 => (ints_Two.f x21 x15 x14).bind fun bt316 => ((ints_Two.f (wrap64 (x21 - 2)) bt316.1 x18).bind fun bt319 => (if x16 = 0 then (if x19 = 0 then (avocetlaw02_IntsDivide.j4 k x3 x9 x11 x13 x14 x18 (bt319.1 != x13)) else (avocetlaw02_IntsDivide.j4 k x3 x9 x11 x13 x14 x18 true)) else (avocetlaw02_IntsDivide.j4 k x3 x9 x11 x13 x14 x18 true)))
def avocetlaw02_IntsDivide.j4 : Nat → Bool → Bool → Int → Int → Int → Int → Bool → Option (Bool)
  | 0, _, _, _, _, _, _, _ => none
  | k + 1, x3, x9, x11, x13, x14, x18, x127 => if x127 = true then (some false) else (if x3 = true then (if x9 = true then (if x18 = 0 then (some true) else ((ints_Signed.f x11 x18).bind fun t322 => ((ints_Signed.f x11 x13).bind fun t323 => (some ((decide (t322 < 0)) == (decide (t323 < 0))))))) else (some false)) else (if x9 = true then (some (decide (x18 < x14))) else (some false)))
end
def avocetlaw02_IntsDivide.f (k : Nat) (a0 : Int) (a1 : Int) (a2 : Bool) (a3 : Bool) : Option (Bool) := (avocetlaw02_awake.f k).bind fun t306 => (if a2 = true then (avocetlaw02_IntsDivide.j0 k a0 a1 a3 t306 128 126 9223372036854775808) else (avocetlaw02_IntsDivide.j0 k a0 a1 a3 t306 110 127 2147483648))
theorem avocetlaw02_IntsDivide.mono_l : ∀ k, (∀ y0 y1 y2 y3 y4 y5 y6, LeO (avocetlaw02_IntsDivide.j0 k y0 y1 y2 y3 y4 y5 y6) (avocetlaw02_IntsDivide.j0 (k + 1) y0 y1 y2 y3 y4 y5 y6)) ∧ (∀ y0 y1 y2 y3 y4 y5 y6, LeO (avocetlaw02_IntsDivide.j1 k y0 y1 y2 y3 y4 y5 y6) (avocetlaw02_IntsDivide.j1 (k + 1) y0 y1 y2 y3 y4 y5 y6)) ∧ (∀ y0 y1 y2 y3 y4 y5 y6 y7 y8 y9 y10, LeO (avocetlaw02_IntsDivide.j2 k y0 y1 y2 y3 y4 y5 y6 y7 y8 y9 y10) (avocetlaw02_IntsDivide.j2 (k + 1) y0 y1 y2 y3 y4 y5 y6 y7 y8 y9 y10)) ∧ (∀ y0 y1 y2 y3 y4 y5 y6 y7 y8 y9, LeO (avocetlaw02_IntsDivide.j3 k y0 y1 y2 y3 y4 y5 y6 y7 y8 y9) (avocetlaw02_IntsDivide.j3 (k + 1) y0 y1 y2 y3 y4 y5 y6 y7 y8 y9)) ∧ (∀ y0 y1 y2 y3 y4 y5 y6, LeO (avocetlaw02_IntsDivide.j4 k y0 y1 y2 y3 y4 y5 y6) (avocetlaw02_IntsDivide.j4 (k + 1) y0 y1 y2 y3 y4 y5 y6))
  | 0 => ⟨fun _ _ _ _ _ _ _ r h => by simp [avocetlaw02_IntsDivide.j0] at h, fun _ _ _ _ _ _ _ r h => by simp [avocetlaw02_IntsDivide.j1] at h, fun _ _ _ _ _ _ _ _ _ _ _ r h => by simp [avocetlaw02_IntsDivide.j2] at h, fun _ _ _ _ _ _ _ _ _ _ r h => by simp [avocetlaw02_IntsDivide.j3] at h, fun _ _ _ _ _ _ _ r h => by simp [avocetlaw02_IntsDivide.j4] at h⟩
  | k + 1 => by
    obtain ⟨ih0, ih1, ih2, ih3, ih4⟩ := avocetlaw02_IntsDivide.mono_l k
    refine ⟨?_, ?_, ?_, ?_, ?_⟩
    · intro y0 y1 y2 y3 y4 y5 y6
      unfold avocetlaw02_IntsDivide.j0
      repeat' first
      | (with_reducible exact ih0 _ _ _ _ _ _ _)
      | (with_reducible exact ih1 _ _ _ _ _ _ _)
      | (with_reducible exact ih2 _ _ _ _ _ _ _ _ _ _ _)
      | (with_reducible exact ih3 _ _ _ _ _ _ _ _ _ _)
      | (with_reducible exact ih4 _ _ _ _ _ _ _)
      | (with_reducible exact avocetlaw02_awake.mono _)
      | (with_reducible exact LeO.refl _)
      | (with_reducible exact LeO.none _)
      | (with_reducible refine LeO.ite ?_ ?_)
      | (with_reducible refine LeO.bind ?_ (fun _ => ?_))
      | exact ih0 _ _ _ _ _ _ _
      | exact ih1 _ _ _ _ _ _ _
      | exact ih2 _ _ _ _ _ _ _ _ _ _ _
      | exact ih3 _ _ _ _ _ _ _ _ _ _
      | exact ih4 _ _ _ _ _ _ _
      | exact avocetlaw02_awake.mono _
      | exact LeO.none _
      | refine LeO.ite ?_ ?_
      | refine LeO.bind ?_ (fun _ => ?_)
    · intro y0 y1 y2 y3 y4 y5 y6
      unfold avocetlaw02_IntsDivide.j1
      repeat' first
      | (with_reducible exact ih0 _ _ _ _ _ _ _)
      | (with_reducible exact ih1 _ _ _ _ _ _ _)
      | (with_reducible exact ih2 _ _ _ _ _ _ _ _ _ _ _)
      | (with_reducible exact ih3 _ _ _ _ _ _ _ _ _ _)
      | (with_reducible exact ih4 _ _ _ _ _ _ _)
      | (with_reducible exact avocetlaw02_awake.mono _)
      | (with_reducible exact LeO.refl _)
      | (with_reducible exact LeO.none _)
      | (with_reducible refine LeO.ite ?_ ?_)
      | (with_reducible refine LeO.bind ?_ (fun _ => ?_))
      | exact ih0 _ _ _ _ _ _ _
      | exact ih1 _ _ _ _ _ _ _
      | exact ih2 _ _ _ _ _ _ _ _ _ _ _
      | exact ih3 _ _ _ _ _ _ _ _ _ _
      | exact ih4 _ _ _ _ _ _ _
      | exact avocetlaw02_awake.mono _
      | exact LeO.none _
      | refine LeO.ite ?_ ?_
      | refine LeO.bind ?_ (fun _ => ?_)
    · intro y0 y1 y2 y3 y4 y5 y6 y7 y8 y9 y10
      unfold avocetlaw02_IntsDivide.j2
      repeat' first
      | (with_reducible exact ih0 _ _ _ _ _ _ _)
      | (with_reducible exact ih1 _ _ _ _ _ _ _)
      | (with_reducible exact ih2 _ _ _ _ _ _ _ _ _ _ _)
      | (with_reducible exact ih3 _ _ _ _ _ _ _ _ _ _)
      | (with_reducible exact ih4 _ _ _ _ _ _ _)
      | (with_reducible exact avocetlaw02_awake.mono _)
      | (with_reducible exact LeO.refl _)
      | (with_reducible exact LeO.none _)
      | (with_reducible refine LeO.ite ?_ ?_)
      | (with_reducible refine LeO.bind ?_ (fun _ => ?_))
      | exact ih0 _ _ _ _ _ _ _
      | exact ih1 _ _ _ _ _ _ _
      | exact ih2 _ _ _ _ _ _ _ _ _ _ _
      | exact ih3 _ _ _ _ _ _ _ _ _ _
      | exact ih4 _ _ _ _ _ _ _
      | exact avocetlaw02_awake.mono _
      | exact LeO.none _
      | refine LeO.ite ?_ ?_
      | refine LeO.bind ?_ (fun _ => ?_)
    · intro y0 y1 y2 y3 y4 y5 y6 y7 y8 y9
      unfold avocetlaw02_IntsDivide.j3
      repeat' first
      | (with_reducible exact ih0 _ _ _ _ _ _ _)
      | (with_reducible exact ih1 _ _ _ _ _ _ _)
      | (with_reducible exact ih2 _ _ _ _ _ _ _ _ _ _ _)
      | (with_reducible exact ih3 _ _ _ _ _ _ _ _ _ _)
      | (with_reducible exact ih4 _ _ _ _ _ _ _)
      | (with_reducible exact avocetlaw02_awake.mono _)
      | (with_reducible exact LeO.refl _)
      | (with_reducible exact LeO.none _)
      | (with_reducible refine LeO.ite ?_ ?_)
      | (with_reducible refine LeO.bind ?_ (fun _ => ?_))
      | exact ih0 _ _ _ _ _ _ _
      | exact ih1 _ _ _ _ _ _ _
      | exact ih2 _ _ _ _ _ _ _ _ _ _ _
      | exact ih3 _ _ _ _ _ _ _ _ _ _
      | exact ih4 _ _ _ _ _ _ _
      | exact avocetlaw02_awake.mono _
      | exact LeO.none _
      | refine LeO.ite ?_ ?_
      | refine LeO.bind ?_ (fun _ => ?_)
    · intro y0 y1 y2 y3 y4 y5 y6
      unfold avocetlaw02_IntsDivide.j4
      repeat' first
      | (with_reducible exact ih0 _ _ _ _ _ _ _)
      | (with_reducible exact ih1 _ _ _ _ _ _ _)
      | (with_reducible exact ih2 _ _ _ _ _ _ _ _ _ _ _)
      | (with_reducible exact ih3 _ _ _ _ _ _ _ _ _ _)
      | (with_reducible exact ih4 _ _ _ _ _ _ _)
      | (with_reducible exact avocetlaw02_awake.mono _)
      | (with_reducible exact LeO.refl _)
      | (with_reducible exact LeO.none _)
      | (with_reducible refine LeO.ite ?_ ?_)
      | (with_reducible refine LeO.bind ?_ (fun _ => ?_))
      | exact ih0 _ _ _ _ _ _ _
      | exact ih1 _ _ _ _ _ _ _
      | exact ih2 _ _ _ _ _ _ _ _ _ _ _
      | exact ih3 _ _ _ _ _ _ _ _ _ _
      | exact ih4 _ _ _ _ _ _ _
      | exact avocetlaw02_awake.mono _
      | exact LeO.none _
      | refine LeO.ite ?_ ?_
      | refine LeO.bind ?_ (fun _ => ?_)
theorem avocetlaw02_IntsDivide.mono : ∀ a0 a1 a2 a3 k, LeO (avocetlaw02_IntsDivide.f k a0 a1 a2 a3) (avocetlaw02_IntsDivide.f (k + 1) a0 a1 a2 a3) := by
  intro a0 a1 a2 a3 k
  obtain ⟨ih0, ih1, ih2, ih3, ih4⟩ := avocetlaw02_IntsDivide.mono_l k
  unfold avocetlaw02_IntsDivide.f
  repeat' first
      | (with_reducible exact ih0 _ _ _ _ _ _ _)
      | (with_reducible exact ih1 _ _ _ _ _ _ _)
      | (with_reducible exact ih2 _ _ _ _ _ _ _ _ _ _ _)
      | (with_reducible exact ih3 _ _ _ _ _ _ _ _ _ _)
      | (with_reducible exact ih4 _ _ _ _ _ _ _)
      | (with_reducible exact avocetlaw02_awake.mono _)
      | (with_reducible exact LeO.refl _)
      | (with_reducible exact LeO.none _)
      | (with_reducible refine LeO.ite ?_ ?_)
      | (with_reducible refine LeO.bind ?_ (fun _ => ?_))
      | exact ih0 _ _ _ _ _ _ _
      | exact ih1 _ _ _ _ _ _ _
      | exact ih2 _ _ _ _ _ _ _ _ _ _ _
      | exact ih3 _ _ _ _ _ _ _ _ _ _
      | exact ih4 _ _ _ _ _ _ _
      | exact avocetlaw02_awake.mono _
      | exact LeO.none _
      | refine LeO.ite ?_ ?_
      | refine LeO.bind ?_ (fun _ => ?_)
set_option maxHeartbeats 8000000 in
set_option maxRecDepth 100000 in
theorem avocetlaw02_IntsDivide.calls (k : Nat) (a0 : Int) (a1 : Int) (a2 : Bool) (a3 : Bool) (r : Bool) (w : World) (hG : Globs w) (hr_ : r = true) (h : avocetlaw02_IntsDivide.f k a0 a1 a2 a3 = some r) :
    Calls Tryd.prog 9 #[.int .u64 a0, .int .u64 a1, .bool a2, .bool a3] w fun e w' => e = .returned (.bool r) ∧ Below w.heap.size w w' := by
  have HRT_ := Aside0.mk hr_
  clear hr_
  have HG := Aside0.mk hG
  clear hG
  have HB := Aside0.mk (Below.refl w.heap.size w)
  have H : ((avocetlaw02_awake.f k).bind fun t306 => (if a2 = true then (avocetlaw02_IntsDivide.j0 k a0 a1 a3 t306 128 126 9223372036854775808) else (avocetlaw02_IntsDivide.j0 k a0 a1 a3 t306 110 127 2147483648))) = some r := h
  clear h
  replace H := Option.bind_eq_some_iff.mp H
  obtain ⟨t306, A50, H⟩ := H
  replace H : (if a2 = true then (avocetlaw02_IntsDivide.j0 k a0 a1 a3 t306 128 126 9223372036854775808) else (avocetlaw02_IntsDivide.j0 k a0 a1 a3 t306 110 127 2147483648)) = some r := H
  have A5 := Aside0.mk A50
  clear A50
  have HC6 := Aside0.mk H
  clear H
  go_enter Tryd.func9, Tryd.ntmps9
  go_upto_if 29 with (first | ((with_reducible refine gate_callee (f := 13) rfl ?_); refine goesL_ (some 28) rfl rfl Tryd.func13 (by kernel_rfl) rfl #[] rfl (by (try simp only [List.map_toArray, List.map_cons, List.map_nil]); first | done | rfl | (simp only [List.length_drop, List.length_take]; rfl)) ?_; (with_reducible refine (avocetlaw02_awake.calls k  t306 _ ?side1 A5.out).mono ?_); (case side1 => first | exact Globs.below HG.out HB.out | exact Globs.below HG.out (by repeat (first | (with_reducible first | exact HB.out | apply below_alloc | apply pw_below_drewN | apply below_drew1) | exact HB.out)) | (repeat (first | exact HG.out | (with_reducible refine Globs.alloc ?_ _) | (with_reducible refine Globs.drewN ?_ _) | (with_reducible refine Globs.drew ?_)))); rintro e w7 ⟨rfl, hb⟩; refine ⟨_, rfl, ?_⟩; have n0_ := Aside0.mk (below_step (by repeat (first | (with_reducible first | exact HB.out | apply below_alloc | apply pw_below_drewN | apply below_drew1) | exact HB.out)) hb); clear HB; have HB := n0_; clear n0_; (try clear hb); (try clear hb2); (try clear hk); (try clear hi)))
  (try simp only [Act.put, List.setIfInBounds_toArray, List.set_cons_zero, List.set_cons_succ])
  go_cut [10, 11, 12] (fun v10 v11 v12 wc => ∃ (kq : Nat) (x10_5 : Int) (x11_5 : Int) (x12_5 : Int), v10 = .int .i64 x10_5 ∧ v11 = .int .u8 x11_5 ∧ v12 = .int .u64 x12_5 ∧ Aside0 (avocetlaw02_IntsDivide.j0 kq a0 a1 a3 t306 x10_5 x11_5 x12_5 = some r) ∧ Aside0 (kq ≤ k) ∧ Aside0 (Below w.heap.size w wc))
  case first =>
    have H := HC6.out
    clear HC6
    by_cases c8 : a2 = true
    · subst c8
      have H1 : (avocetlaw02_IntsDivide.j0 k a0 a1 a3 t306 128 126 9223372036854775808) = some r := by rw [if_pos rfl] at H; exact H
      clear H
      have H := H1
      clear H1
      have H' := Aside0.mk H
      clear H
      go_wp2
      go_meet
      case rel => exact ⟨_, (128), (126), (9223372036854775808), (by first | rfl | (simp; done) | (simp [*]; done)), (by first | rfl | (simp; done) | (simp [*]; done)), (by first | rfl | (simp; done) | (simp [*]; done)), H', ⟨by first | omega | exact Nat.le_refl _⟩, ⟨by repeat (first | (with_reducible first | exact HB.out | apply below_alloc | apply pw_below_drewN | apply below_drew1) | exact HB.out)⟩⟩
    · replace c8 := Bool.eq_false_iff.mpr c8
      subst c8
      have H1 : (avocetlaw02_IntsDivide.j0 k a0 a1 a3 t306 110 127 2147483648) = some r := by rw [if_neg (show ¬ (false = true) by decide)] at H; exact H
      clear H
      have H := H1
      clear H1
      have H' := Aside0.mk H
      clear H
      go_wp2
      go_meet
      case rel => exact ⟨_, (110), (127), (2147483648), (by first | rfl | (simp; done) | (simp [*]; done)), (by first | rfl | (simp; done) | (simp [*]; done)), (by first | rfl | (simp; done) | (simp [*]; done)), H', ⟨by first | omega | exact Nat.le_refl _⟩, ⟨by repeat (first | (with_reducible first | exact HB.out | apply below_alloc | apply pw_below_drewN | apply below_drew1) | exact HB.out)⟩⟩
  case rest =>
    clear HC6
    try clear c1
    try clear p2
    try clear c8
    obtain ⟨kq, x10_5, x11_5, x12_5, rfl, rfl, rfl, HA, HJ5, HB⟩ := hcut
    cases kq with
    | zero => exact absurd HA.out (by simp [avocetlaw02_IntsDivide.j0])
    | succ kj5 =>
      have H := HA.out
      clear HA
      simp only [avocetlaw02_IntsDivide.j0] at H
      have HC9 := Aside0.mk H
      clear H
      go_upto_if 30 with (fail)
      go_cut [10] (fun v10 wc => ∃ (kq : Nat) (x10_8 : Int), v10 = .int .i64 x10_8 ∧ Aside0 (avocetlaw02_IntsDivide.j1 kq a0 a1 a3 t306 x10_8 x11_5 x12_5 = some r) ∧ Aside0 (kq ≤ kj5) ∧ Aside0 (Below w.heap.size w wc))
      case first =>
        have H := HC9.out
        clear HC9
        by_cases c10 : a3 = true
        · subst c10
          have H1 : (avocetlaw02_IntsDivide.j1 kj5 a0 a1 true t306 (wrap64 (x10_5 - 1)) x11_5 x12_5) = some r := by rw [if_pos rfl] at H; exact H
          clear H
          have H := H1
          clear H1
          have H' := Aside0.mk H
          clear H
          go_wp2
          go_meet
          case rel => exact ⟨_, (wrap64 (x10_5 - 1)), (by first | rfl | (simp; done) | (simp [*]; done)), H', ⟨by have := HJ5.out; first | omega | exact Nat.le_refl _⟩, ⟨by repeat (first | (with_reducible first | exact HB.out | apply below_alloc | apply pw_below_drewN | apply below_drew1) | exact HB.out)⟩⟩
        · replace c10 := Bool.eq_false_iff.mpr c10
          subst c10
          have H1 : (avocetlaw02_IntsDivide.j1 kj5 a0 a1 false t306 x10_5 x11_5 x12_5) = some r := by rw [if_neg (show ¬ (false = true) by decide)] at H; exact H
          clear H
          have H := H1
          clear H1
          have H' := Aside0.mk H
          clear H
          go_wp2
          go_meet
          case rel => exact ⟨_, (x10_5), (by first | rfl | (simp; done) | (simp [*]; done)), H', ⟨by have := HJ5.out; first | omega | exact Nat.le_refl _⟩, ⟨by repeat (first | (with_reducible first | exact HB.out | apply below_alloc | apply pw_below_drewN | apply below_drew1) | exact HB.out)⟩⟩
      case rest =>
        clear HC9
        try clear c1
        try clear p2
        try clear p6
        try clear c8
        try clear c9
        try clear c10
        try clear p2
        obtain ⟨kq, x10_8, rfl, HA, HJ8, HB⟩ := hcut
        cases kq with
        | zero => exact absurd HA.out (by simp [avocetlaw02_IntsDivide.j1])
        | succ kj8 =>
          have H := HA.out
          clear HA
          simp only [avocetlaw02_IntsDivide.j1] at H
          replace H := Option.bind_eq_some_iff.mp H
          obtain ⟨t307, A110, H⟩ := H
          replace H : ((ints_Value.f x11_5 (wrap64 (a1))).bind fun t308 => ((ints_Two.f x10_8 t307 t308).bind fun bt309 => ((ints_Two.f (wrap64 (x10_8 + 2)) t307 t308).bind fun bt312 => (if t308 = 0 then (if t306 = true then (if bt309.2.1 = 2 then (some (bt312.2.1 == 2)) else (some false)) else (some false)) else (if a3 = true then (if t307 = x12_5 then ((ints_Signed.f x11_5 t308).bind fun t315 => (avocetlaw02_IntsDivide.j2 kj8 a3 t306 x10_8 x11_5 t307 t308 bt309.1 bt309.2.1 bt312.1 bt312.2.1 (t315 == (-1)))) else (avocetlaw02_IntsDivide.j2 kj8 a3 t306 x10_8 x11_5 t307 t308 bt309.1 bt309.2.1 bt312.1 bt312.2.1 false)) else (avocetlaw02_IntsDivide.j2 kj8 a3 t306 x10_8 x11_5 t307 t308 bt309.1 bt309.2.1 bt312.1 bt312.2.1 false)))))) = some r := H
          have A11 := Aside0.mk A110
          clear A110
          replace H := Option.bind_eq_some_iff.mp H
          obtain ⟨t308, A120, H⟩ := H
          replace H : ((ints_Two.f x10_8 t307 t308).bind fun bt309 => ((ints_Two.f (wrap64 (x10_8 + 2)) t307 t308).bind fun bt312 => (if t308 = 0 then (if t306 = true then (if bt309.2.1 = 2 then (some (bt312.2.1 == 2)) else (some false)) else (some false)) else (if a3 = true then (if t307 = x12_5 then ((ints_Signed.f x11_5 t308).bind fun t315 => (avocetlaw02_IntsDivide.j2 kj8 a3 t306 x10_8 x11_5 t307 t308 bt309.1 bt309.2.1 bt312.1 bt312.2.1 (t315 == (-1)))) else (avocetlaw02_IntsDivide.j2 kj8 a3 t306 x10_8 x11_5 t307 t308 bt309.1 bt309.2.1 bt312.1 bt312.2.1 false)) else (avocetlaw02_IntsDivide.j2 kj8 a3 t306 x10_8 x11_5 t307 t308 bt309.1 bt309.2.1 bt312.1 bt312.2.1 false))))) = some r := H
          have A12 := Aside0.mk A120
          clear A120
          replace H := Option.bind_eq_some_iff.mp H
          obtain ⟨⟨t309, t310, t311⟩, A130, H⟩ := H
          replace H : ((ints_Two.f (wrap64 (x10_8 + 2)) t307 t308).bind fun bt312 => (if t308 = 0 then (if t306 = true then (if t310 = 2 then (some (bt312.2.1 == 2)) else (some false)) else (some false)) else (if a3 = true then (if t307 = x12_5 then ((ints_Signed.f x11_5 t308).bind fun t315 => (avocetlaw02_IntsDivide.j2 kj8 a3 t306 x10_8 x11_5 t307 t308 t309 t310 bt312.1 bt312.2.1 (t315 == (-1)))) else (avocetlaw02_IntsDivide.j2 kj8 a3 t306 x10_8 x11_5 t307 t308 t309 t310 bt312.1 bt312.2.1 false)) else (avocetlaw02_IntsDivide.j2 kj8 a3 t306 x10_8 x11_5 t307 t308 t309 t310 bt312.1 bt312.2.1 false)))) = some r := H
          have A13 := Aside0.mk A130
          clear A130
          replace H := Option.bind_eq_some_iff.mp H
          obtain ⟨⟨t312, t313, t314⟩, A140, H⟩ := H
          replace H : (if t308 = 0 then (if t306 = true then (if t310 = 2 then (some (t313 == 2)) else (some false)) else (some false)) else (if a3 = true then (if t307 = x12_5 then ((ints_Signed.f x11_5 t308).bind fun t315 => (avocetlaw02_IntsDivide.j2 kj8 a3 t306 x10_8 x11_5 t307 t308 t309 t310 t312 t313 (t315 == (-1)))) else (avocetlaw02_IntsDivide.j2 kj8 a3 t306 x10_8 x11_5 t307 t308 t309 t310 t312 t313 false)) else (avocetlaw02_IntsDivide.j2 kj8 a3 t306 x10_8 x11_5 t307 t308 t309 t310 t312 t313 false))) = some r := H
          have A14 := Aside0.mk A140
          clear A140
          by_cases c15 : t308 = 0
          · rw [if_pos c15] at H
            have c15b0 : (t308 == 0) = true := beq_iff_eq.mpr c15
            have c15b1 : (t308 != 0) = false := bne_eq_false_iff_eq.mpr c15
            clear c15
            by_cases c16 : t306 = true
            · subst c16
              have H1 : (if t310 = 2 then (some (t313 == 2)) else (some false)) = some r := by rw [if_pos rfl] at H; exact H
              clear H
              have H := H1
              clear H1
              by_cases c17 : t310 = 2
              · rw [if_pos c17] at H
                have c17b0 : (t310 == 2) = true := beq_iff_eq.mpr c17
                have c17b1 : (t310 != 2) = false := bne_eq_false_iff_eq.mpr c17
                clear c17
                obtain rfl := Option.some.inj H
                go_wp2_with (first | ((with_reducible refine gate_callee (f := 20) rfl ?_); refine goesL_ (some 36) rfl rfl Tryd.func20 (by kernel_rfl) rfl #[.int .u8 x11_5, .int .i64 (wrap64 (a0))] rfl (by (try simp only [List.map_toArray, List.map_cons, List.map_nil]); first | done | rfl | (simp only [List.length_drop, List.length_take]; rfl)) ?_; (with_reducible refine (ints_Value.calls x11_5 (wrap64 (a0)) t307 _ A11.out).mono ?_); rintro e w' ⟨rfl, ⟨nd, rfl⟩⟩; refine ⟨_, rfl, ?_⟩) | ((with_reducible refine gate_callee (f := 20) rfl ?_); refine goesL_ (some 40) rfl rfl Tryd.func20 (by kernel_rfl) rfl #[.int .u8 x11_5, .int .i64 (wrap64 (a1))] rfl (by (try simp only [List.map_toArray, List.map_cons, List.map_nil]); first | done | rfl | (simp only [List.length_drop, List.length_take]; rfl)) ?_; (with_reducible refine (ints_Value.calls x11_5 (wrap64 (a1)) t308 _ A12.out).mono ?_); rintro e w' ⟨rfl, ⟨nd, rfl⟩⟩; refine ⟨_, rfl, ?_⟩) | ((with_reducible refine gate_callee (f := 16) rfl ?_); refine goesL_ (some 45) rfl rfl Tryd.func16 (by kernel_rfl) rfl #[.int .i64 x10_8, .int .u64 t307, .int .u64 t308] rfl (by (try simp only [List.map_toArray, List.map_cons, List.map_nil]); first | done | rfl | (simp only [List.length_drop, List.length_take]; rfl)) ?_; (with_reducible refine (ints_Two.calls x10_8 t307 t308 t309 t310 t311 _ A13.out).mono ?_); rintro e w18 ⟨rfl, hb⟩; refine ⟨_, rfl, ?_⟩; have n0_ := Aside0.mk (below_step (by repeat (first | (with_reducible first | exact HB.out | apply below_alloc | apply pw_below_drewN | apply below_drew1) | exact HB.out)) hb); clear HB; have HB := n0_; clear n0_; (try clear hb); (try clear hb2); (try clear hk); (try clear hi)) | ((with_reducible refine gate_callee (f := 16) rfl ?_); refine goesL_ (some 54) rfl rfl Tryd.func16 (by kernel_rfl) rfl #[.int .i64 (wrap64 (x10_8 + 2)), .int .u64 t307, .int .u64 t308] rfl (by (try simp only [List.map_toArray, List.map_cons, List.map_nil]); first | done | rfl | (simp only [List.length_drop, List.length_take]; rfl)) ?_; (with_reducible refine (ints_Two.calls (wrap64 (x10_8 + 2)) t307 t308 t312 t313 t314 _ A14.out).mono ?_); rintro e w19 ⟨rfl, hb⟩; refine ⟨_, rfl, ?_⟩; have n0_ := Aside0.mk (below_step (by repeat (first | (with_reducible first | exact HB.out | apply below_alloc | apply pw_below_drewN | apply below_drew1) | exact HB.out)) hb); clear HB; have HB := n0_; clear n0_; (try clear hb); (try clear hb2); (try clear hk); (try clear hi)))
                go_ret
                exact ⟨by first | rfl | (simp [errW_none, errW_some] <;> rfl) | (simp [*, errW_none, errW_some] <;> rfl), by repeat (first | (with_reducible first | exact HB.out | apply below_alloc | apply pw_below_drewN | apply below_drew1) | exact HB.out)⟩
              · rw [if_neg c17] at H
                have c17b0 : (t310 == 2) = false := beq_eq_false_iff_ne.mpr c17
                have c17b1 : (t310 != 2) = true := bne_iff_ne.mpr c17
                exact absurd ((Option.some.inj H).trans HRT_.out) (by decide)
            · replace c16 := Bool.eq_false_iff.mpr c16
              subst c16
              have H1 : (some false) = some r := by rw [if_neg (show ¬ (false = true) by decide)] at H; exact H
              clear H
              have H := H1
              clear H1
              exact absurd ((Option.some.inj H).trans HRT_.out) (by decide)
          · rw [if_neg c15] at H
            have c15b0 : (t308 == 0) = false := beq_eq_false_iff_ne.mpr c15
            have c15b1 : (t308 != 0) = true := bne_iff_ne.mpr c15
            have HC20 := Aside0.mk H
            clear H
            go_upto_region 17 with (first | ((with_reducible refine gate_callee (f := 20) rfl ?_); refine goesL_ (some 36) rfl rfl Tryd.func20 (by kernel_rfl) rfl #[.int .u8 x11_5, .int .i64 (wrap64 (a0))] rfl (by (try simp only [List.map_toArray, List.map_cons, List.map_nil]); first | done | rfl | (simp only [List.length_drop, List.length_take]; rfl)) ?_; (with_reducible refine (ints_Value.calls x11_5 (wrap64 (a0)) t307 _ A11.out).mono ?_); rintro e w' ⟨rfl, ⟨nd, rfl⟩⟩; refine ⟨_, rfl, ?_⟩) | ((with_reducible refine gate_callee (f := 20) rfl ?_); refine goesL_ (some 40) rfl rfl Tryd.func20 (by kernel_rfl) rfl #[.int .u8 x11_5, .int .i64 (wrap64 (a1))] rfl (by (try simp only [List.map_toArray, List.map_cons, List.map_nil]); first | done | rfl | (simp only [List.length_drop, List.length_take]; rfl)) ?_; (with_reducible refine (ints_Value.calls x11_5 (wrap64 (a1)) t308 _ A12.out).mono ?_); rintro e w' ⟨rfl, ⟨nd, rfl⟩⟩; refine ⟨_, rfl, ?_⟩) | ((with_reducible refine gate_callee (f := 16) rfl ?_); refine goesL_ (some 45) rfl rfl Tryd.func16 (by kernel_rfl) rfl #[.int .i64 x10_8, .int .u64 t307, .int .u64 t308] rfl (by (try simp only [List.map_toArray, List.map_cons, List.map_nil]); first | done | rfl | (simp only [List.length_drop, List.length_take]; rfl)) ?_; (with_reducible refine (ints_Two.calls x10_8 t307 t308 t309 t310 t311 _ A13.out).mono ?_); rintro e w21 ⟨rfl, hb⟩; refine ⟨_, rfl, ?_⟩; have n0_ := Aside0.mk (below_step (by repeat (first | (with_reducible first | exact HB.out | apply below_alloc | apply pw_below_drewN | apply below_drew1) | exact HB.out)) hb); clear HB; have HB := n0_; clear n0_; (try clear hb); (try clear hb2); (try clear hk); (try clear hi)) | ((with_reducible refine gate_callee (f := 16) rfl ?_); refine goesL_ (some 54) rfl rfl Tryd.func16 (by kernel_rfl) rfl #[.int .i64 (wrap64 (x10_8 + 2)), .int .u64 t307, .int .u64 t308] rfl (by (try simp only [List.map_toArray, List.map_cons, List.map_nil]); first | done | rfl | (simp only [List.length_drop, List.length_take]; rfl)) ?_; (with_reducible refine (ints_Two.calls (wrap64 (x10_8 + 2)) t307 t308 t312 t313 t314 _ A14.out).mono ?_); rintro e w22 ⟨rfl, hb⟩; refine ⟨_, rfl, ?_⟩; have n0_ := Aside0.mk (below_step (by repeat (first | (with_reducible first | exact HB.out | apply below_alloc | apply pw_below_drewN | apply below_drew1) | exact HB.out)) hb); clear HB; have HB := n0_; clear n0_; (try clear hb); (try clear hb2); (try clear hk); (try clear hi)))
            (try simp only [Act.put, List.setIfInBounds_toArray, List.set_cons_zero, List.set_cons_succ])
            go_cut [80] (fun v80 wc => ∃ (kq : Nat) (x80_19 : Bool), v80 = .bool x80_19 ∧ Aside0 (avocetlaw02_IntsDivide.j2 kq a3 t306 x10_8 x11_5 t307 t308 t309 t310 t312 t313 x80_19 = some r) ∧ Aside0 (kq ≤ kj8) ∧ Aside0 (Below w.heap.size w wc))
            case first =>
              have H := HC20.out
              clear HC20
              by_cases c23 : a3 = true
              · subst c23
                have H1 : (if t307 = x12_5 then ((ints_Signed.f x11_5 t308).bind fun t315 => (avocetlaw02_IntsDivide.j2 kj8 true t306 x10_8 x11_5 t307 t308 t309 t310 t312 t313 (t315 == (-1)))) else (avocetlaw02_IntsDivide.j2 kj8 true t306 x10_8 x11_5 t307 t308 t309 t310 t312 t313 false)) = some r := by rw [if_pos rfl] at H; exact H
                clear H
                have H := H1
                clear H1
                by_cases c24 : t307 = x12_5
                · rw [if_pos c24] at H
                  have c24b0 : (t307 == x12_5) = true := beq_iff_eq.mpr c24
                  have c24b1 : (t307 != x12_5) = false := bne_eq_false_iff_eq.mpr c24
                  clear c24
                  (first | rw [c24b0] | (simp only [i64_w, i32_w]; rw [c24b0]) | skip)
                  replace H := Option.bind_eq_some_iff.mp H
                  obtain ⟨t315, A250, H⟩ := H
                  replace H : (avocetlaw02_IntsDivide.j2 kj8 true t306 x10_8 x11_5 t307 t308 t309 t310 t312 t313 (t315 == (-1))) = some r := H
                  have A25 := Aside0.mk A250
                  clear A250
                  have H' := Aside0.mk H
                  clear H
                  go_wp2_with (first | (go_at_call 21; (with_reducible refine (ints_Signed.calls x11_5 t308 t315 _ A25.out).mono ?_); rintro e w' ⟨rfl, ⟨nd, rfl⟩⟩))
                  go_meet
                  case rel => exact ⟨_, ((t315 == (-1))), (by first | rfl | (simp; done) | (simp [*]; done)), H', ⟨by have := HJ5.out; have := HJ8.out; first | omega | exact Nat.le_refl _⟩, ⟨by repeat (first | (with_reducible first | exact HB.out | apply below_alloc | apply pw_below_drewN | apply below_drew1) | exact HB.out)⟩⟩
                · rw [if_neg c24] at H
                  have c24b0 : (t307 == x12_5) = false := beq_eq_false_iff_ne.mpr c24
                  have c24b1 : (t307 != x12_5) = true := bne_iff_ne.mpr c24
                  (first | rw [c24b0] | (simp only [i64_w, i32_w]; rw [c24b0]) | skip)
                  have H' := Aside0.mk H
                  clear H
                  go_wp2
                  go_meet
                  case rel => exact ⟨_, (false), (by first | rfl | (simp; done) | (simp [*]; done)), H', ⟨by have := HJ5.out; have := HJ8.out; first | omega | exact Nat.le_refl _⟩, ⟨by repeat (first | (with_reducible first | exact HB.out | apply below_alloc | apply pw_below_drewN | apply below_drew1) | exact HB.out)⟩⟩
              · replace c23 := Bool.eq_false_iff.mpr c23
                subst c23
                have H1 : (avocetlaw02_IntsDivide.j2 kj8 false t306 x10_8 x11_5 t307 t308 t309 t310 t312 t313 false) = some r := by rw [if_neg (show ¬ (false = true) by decide)] at H; exact H
                clear H
                have H := H1
                clear H1
                have H' := Aside0.mk H
                clear H
                go_wp2
                go_meet
                case rel => exact ⟨_, (false), (by first | rfl | (simp; done) | (simp [*]; done)), H', ⟨by have := HJ5.out; have := HJ8.out; first | omega | exact Nat.le_refl _⟩, ⟨by repeat (first | (with_reducible first | exact HB.out | apply below_alloc | apply pw_below_drewN | apply below_drew1) | exact HB.out)⟩⟩
            case rest =>
              clear HC20
              try clear c1
              try clear c2
              try clear p2
              try clear p6
              try clear c8
              try clear c9
              try clear c10
              try clear c13
              try clear c15
              try clear c15b0
              try clear c15b1
              try clear c16
              try clear c17
              try clear c17b0
              try clear c17b1
              try clear c20
              try clear c23
              try clear c24
              try clear c24b0
              try clear c24b1
              try clear p2
              try clear p6
              obtain ⟨kq, x80_19, rfl, HA, HJ19, HB⟩ := hcut
              cases kq with
              | zero => exact absurd HA.out (by simp [avocetlaw02_IntsDivide.j2])
              | succ kj19 =>
                have H := HA.out
                clear HA
                simp only [avocetlaw02_IntsDivide.j2] at H
                by_cases c26 : x80_19 = true
                · subst c26
                  have H1 : (if t306 = true then (if t310 = 3 then (if t313 = 0 then (some (t312 == 0)) else (some false)) else (some false)) else (some false)) = some r := by rw [if_pos rfl] at H; exact H
                  clear H
                  have H := H1
                  clear H1
                  by_cases c27 : t306 = true
                  · subst c27
                    have H1 : (if t310 = 3 then (if t313 = 0 then (some (t312 == 0)) else (some false)) else (some false)) = some r := by rw [if_pos rfl] at H; exact H
                    clear H
                    have H := H1
                    clear H1
                    by_cases c28 : t310 = 3
                    · rw [if_pos c28] at H
                      have c28b0 : (t310 == 3) = true := beq_iff_eq.mpr c28
                      have c28b1 : (t310 != 3) = false := bne_eq_false_iff_eq.mpr c28
                      clear c28
                      by_cases c29 : t313 = 0
                      · rw [if_pos c29] at H
                        have c29b0 : (t313 == 0) = true := beq_iff_eq.mpr c29
                        have c29b1 : (t313 != 0) = false := bne_eq_false_iff_eq.mpr c29
                        clear c29
                        obtain rfl := Option.some.inj H
                        go_wp2
                        go_ret
                        exact ⟨by first | rfl | (simp [errW_none, errW_some] <;> rfl) | (simp [*, errW_none, errW_some] <;> rfl), by repeat (first | (with_reducible first | exact HB.out | apply below_alloc | apply pw_below_drewN | apply below_drew1) | exact HB.out)⟩
                      · rw [if_neg c29] at H
                        have c29b0 : (t313 == 0) = false := beq_eq_false_iff_ne.mpr c29
                        have c29b1 : (t313 != 0) = true := bne_iff_ne.mpr c29
                        exact absurd ((Option.some.inj H).trans HRT_.out) (by decide)
                    · rw [if_neg c28] at H
                      have c28b0 : (t310 == 3) = false := beq_eq_false_iff_ne.mpr c28
                      have c28b1 : (t310 != 3) = true := bne_iff_ne.mpr c28
                      exact absurd ((Option.some.inj H).trans HRT_.out) (by decide)
                  · replace c27 := Bool.eq_false_iff.mpr c27
                    subst c27
                    have H1 : (some false) = some r := by rw [if_neg (show ¬ (false = true) by decide)] at H; exact H
                    clear H
                    have H := H1
                    clear H1
                    exact absurd ((Option.some.inj H).trans HRT_.out) (by decide)
                · replace c26 := Bool.eq_false_iff.mpr c26
                  subst c26
                  have H1 : (if a3 = true then (avocetlaw02_IntsDivide.j3 kj19 a3 t306 x11_5 t307 t308 t309 t310 t312 t313 (wrap64 (x10_8 - 1))) else (avocetlaw02_IntsDivide.j3 kj19 a3 t306 x11_5 t307 t308 t309 t310 t312 t313 (wrap64 ((wrap64 (x10_8 - 1)) - 1)))) = some r := by rw [if_neg (show ¬ (false = true) by decide)] at H; exact H
                  clear H
                  have H := H1
                  clear H1
                  have HC30 := Aside0.mk H
                  clear H
                  go_upto_if 97 with (fail)
                  go_cut [21] (fun v21 wc => ∃ (kq : Nat) (x21_29 : Int), v21 = .int .i64 x21_29 ∧ Aside0 (avocetlaw02_IntsDivide.j3 kq a3 t306 x11_5 t307 t308 t309 t310 t312 t313 x21_29 = some r) ∧ Aside0 (kq ≤ kj19) ∧ Aside0 (Below w.heap.size w wc))
                  case first =>
                    have H := HC30.out
                    clear HC30
                    by_cases c31 : a3 = true
                    · subst c31
                      have H1 : (avocetlaw02_IntsDivide.j3 kj19 true t306 x11_5 t307 t308 t309 t310 t312 t313 (wrap64 (x10_8 - 1))) = some r := by rw [if_pos rfl] at H; exact H
                      clear H
                      have H := H1
                      clear H1
                      have H' := Aside0.mk H
                      clear H
                      go_wp2
                      go_meet
                      case rel => exact ⟨_, (wrap64 (x10_8 - 1)), (by first | rfl | (simp; done) | (simp [*]; done)), H', ⟨by have := HJ5.out; have := HJ8.out; have := HJ19.out; first | omega | exact Nat.le_refl _⟩, ⟨by repeat (first | (with_reducible first | exact HB.out | apply below_alloc | apply pw_below_drewN | apply below_drew1) | exact HB.out)⟩⟩
                    · replace c31 := Bool.eq_false_iff.mpr c31
                      subst c31
                      have H1 : (avocetlaw02_IntsDivide.j3 kj19 false t306 x11_5 t307 t308 t309 t310 t312 t313 (wrap64 ((wrap64 (x10_8 - 1)) - 1))) = some r := by rw [if_neg (show ¬ (false = true) by decide)] at H; exact H
                      clear H
                      have H := H1
                      clear H1
                      have H' := Aside0.mk H
                      clear H
                      go_wp2
                      go_meet
                      case rel => exact ⟨_, (wrap64 ((wrap64 (x10_8 - 1)) - 1)), (by first | rfl | (simp; done) | (simp [*]; done)), H', ⟨by have := HJ5.out; have := HJ8.out; have := HJ19.out; first | omega | exact Nat.le_refl _⟩, ⟨by repeat (first | (with_reducible first | exact HB.out | apply below_alloc | apply pw_below_drewN | apply below_drew1) | exact HB.out)⟩⟩
                  case rest =>
                    clear HC30
                    try clear c1
                    try clear c2
                    try clear p2
                    try clear c3
                    try clear p6
                    try clear c8
                    try clear c9
                    try clear c10
                    try clear c13
                    try clear c15
                    try clear c15b0
                    try clear c15b1
                    try clear c16
                    try clear c17
                    try clear c17b0
                    try clear c17b1
                    try clear c20
                    try clear c23
                    try clear c24
                    try clear c24b0
                    try clear c24b1
                    try clear c26
                    try clear c27
                    try clear c28
                    try clear c28b0
                    try clear c28b1
                    try clear c29
                    try clear c29b0
                    try clear c29b1
                    try clear c31
                    try clear p2
                    try clear p6
                    obtain ⟨kq, x21_29, rfl, HA, HJ29, HB⟩ := hcut
                    cases kq with
                    | zero => exact absurd HA.out (by simp [avocetlaw02_IntsDivide.j3])
                    | succ kj29 =>
                      have H := HA.out
                      clear HA
                      simp only [avocetlaw02_IntsDivide.j3] at H
                      replace H := Option.bind_eq_some_iff.mp H
                      obtain ⟨⟨t316, t317, t318⟩, A320, H⟩ := H
                      replace H : ((ints_Two.f (wrap64 (x21_29 - 2)) t316 t312).bind fun bt319 => (if t310 = 0 then (if t313 = 0 then (avocetlaw02_IntsDivide.j4 kj29 a3 t306 x11_5 t307 t308 t312 (bt319.1 != t307)) else (avocetlaw02_IntsDivide.j4 kj29 a3 t306 x11_5 t307 t308 t312 true)) else (avocetlaw02_IntsDivide.j4 kj29 a3 t306 x11_5 t307 t308 t312 true))) = some r := H
                      have A32 := Aside0.mk A320
                      clear A320
                      replace H := Option.bind_eq_some_iff.mp H
                      obtain ⟨⟨t319, t320, t321⟩, A330, H⟩ := H
                      replace H : (if t310 = 0 then (if t313 = 0 then (avocetlaw02_IntsDivide.j4 kj29 a3 t306 x11_5 t307 t308 t312 (t319 != t307)) else (avocetlaw02_IntsDivide.j4 kj29 a3 t306 x11_5 t307 t308 t312 true)) else (avocetlaw02_IntsDivide.j4 kj29 a3 t306 x11_5 t307 t308 t312 true)) = some r := H
                      have A33 := Aside0.mk A330
                      clear A330
                      have HC34 := Aside0.mk H
                      clear H
                      go_upto_region 24 with (first | ((with_reducible refine gate_callee (f := 16) rfl ?_); refine goesL_ (some 104) rfl rfl Tryd.func16 (by kernel_rfl) rfl #[.int .i64 x21_29, .int .u64 t309, .int .u64 t308] rfl (by (try simp only [List.map_toArray, List.map_cons, List.map_nil]); first | done | rfl | (simp only [List.length_drop, List.length_take]; rfl)) ?_; (with_reducible refine (ints_Two.calls x21_29 t309 t308 t316 t317 t318 _ A32.out).mono ?_); rintro e w35 ⟨rfl, hb⟩; refine ⟨_, rfl, ?_⟩; have n0_ := Aside0.mk (below_step (by repeat (first | (with_reducible first | exact HB.out | apply below_alloc | apply pw_below_drewN | apply below_drew1) | exact HB.out)) hb); clear HB; have HB := n0_; clear n0_; (try clear hb); (try clear hb2); (try clear hk); (try clear hi)) | ((with_reducible refine gate_callee (f := 16) rfl ?_); refine goesL_ (some 113) rfl rfl Tryd.func16 (by kernel_rfl) rfl #[.int .i64 (wrap64 (x21_29 - 2)), .int .u64 t316, .int .u64 t312] rfl (by (try simp only [List.map_toArray, List.map_cons, List.map_nil]); first | done | rfl | (simp only [List.length_drop, List.length_take]; rfl)) ?_; (with_reducible refine (ints_Two.calls (wrap64 (x21_29 - 2)) t316 t312 t319 t320 t321 _ A33.out).mono ?_); rintro e w36 ⟨rfl, hb⟩; refine ⟨_, rfl, ?_⟩; have n0_ := Aside0.mk (below_step (by repeat (first | (with_reducible first | exact HB.out | apply below_alloc | apply pw_below_drewN | apply below_drew1) | exact HB.out)) hb); clear HB; have HB := n0_; clear n0_; (try clear hb); (try clear hb2); (try clear hk); (try clear hi)))
                      (try simp only [Act.put, List.setIfInBounds_toArray, List.set_cons_zero, List.set_cons_succ])
                      go_cut [127] (fun v127 wc => ∃ (kq : Nat) (x127_33 : Bool), v127 = .bool x127_33 ∧ Aside0 (avocetlaw02_IntsDivide.j4 kq a3 t306 x11_5 t307 t308 t312 x127_33 = some r) ∧ Aside0 (kq ≤ kj29) ∧ Aside0 (Below w.heap.size w wc))
                      case first =>
                        have H := HC34.out
                        clear HC34
                        by_cases c37 : t310 = 0
                        · rw [if_pos c37] at H
                          have c37b0 : (t310 == 0) = true := beq_iff_eq.mpr c37
                          have c37b1 : (t310 != 0) = false := bne_eq_false_iff_eq.mpr c37
                          clear c37
                          (first | rw [c37b0] | (simp only [i64_w, i32_w]; rw [c37b0]) | skip)
                          by_cases c38 : t313 = 0
                          · rw [if_pos c38] at H
                            have c38b0 : (t313 == 0) = true := beq_iff_eq.mpr c38
                            have c38b1 : (t313 != 0) = false := bne_eq_false_iff_eq.mpr c38
                            clear c38
                            have H' := Aside0.mk H
                            clear H
                            go_wp2
                            go_meet
                            case rel => exact ⟨_, ((t319 != t307)), (by first | rfl | (simp; done) | (simp [*]; done)), H', ⟨by have := HJ5.out; have := HJ8.out; have := HJ19.out; have := HJ29.out; first | omega | exact Nat.le_refl _⟩, ⟨by repeat (first | (with_reducible first | exact HB.out | apply below_alloc | apply pw_below_drewN | apply below_drew1) | exact HB.out)⟩⟩
                          · rw [if_neg c38] at H
                            have c38b0 : (t313 == 0) = false := beq_eq_false_iff_ne.mpr c38
                            have c38b1 : (t313 != 0) = true := bne_iff_ne.mpr c38
                            exfalso; rw [HRT_.out] at H; revert H; cases kj29 <;> simp [avocetlaw02_IntsDivide.j4]
                        · rw [if_neg c37] at H
                          have c37b0 : (t310 == 0) = false := beq_eq_false_iff_ne.mpr c37
                          have c37b1 : (t310 != 0) = true := bne_iff_ne.mpr c37
                          (first | rw [c37b0] | (simp only [i64_w, i32_w]; rw [c37b0]) | skip)
                          exfalso; rw [HRT_.out] at H; revert H; cases kj29 <;> simp [avocetlaw02_IntsDivide.j4]
                      case rest =>
                        clear HC34
                        try clear c1
                        try clear c2
                        try clear p2
                        try clear c3
                        try clear p6
                        try clear c8
                        try clear c9
                        try clear c10
                        try clear c13
                        try clear c15
                        try clear c15b0
                        try clear c15b1
                        try clear c16
                        try clear c17
                        try clear c17b0
                        try clear c17b1
                        try clear c20
                        try clear c23
                        try clear c24
                        try clear c24b0
                        try clear c24b1
                        try clear c26
                        try clear c27
                        try clear c28
                        try clear c28b0
                        try clear c28b1
                        try clear c29
                        try clear c29b0
                        try clear c29b1
                        try clear c31
                        try clear c37
                        try clear c37b0
                        try clear c37b1
                        try clear c38
                        try clear c38b0
                        try clear c38b1
                        try clear p2
                        try clear p6
                        obtain ⟨kq, x127_33, rfl, HA, HJ33, HB⟩ := hcut
                        cases kq with
                        | zero => exact absurd HA.out (by simp [avocetlaw02_IntsDivide.j4])
                        | succ kj33 =>
                          have H := HA.out
                          clear HA
                          simp only [avocetlaw02_IntsDivide.j4] at H
                          by_cases c39 : x127_33 = true
                          · subst c39
                            have H1 : (some false) = some r := by rw [if_pos rfl] at H; exact H
                            clear H
                            have H := H1
                            clear H1
                            exact absurd ((Option.some.inj H).trans HRT_.out) (by decide)
                          · replace c39 := Bool.eq_false_iff.mpr c39
                            subst c39
                            have H1 : (if a3 = true then (if t306 = true then (if t312 = 0 then (some true) else ((ints_Signed.f x11_5 t312).bind fun t322 => ((ints_Signed.f x11_5 t307).bind fun t323 => (some ((decide (t322 < 0)) == (decide (t323 < 0))))))) else (some false)) else (if t306 = true then (some (decide (t312 < t308))) else (some false))) = some r := by rw [if_neg (show ¬ (false = true) by decide)] at H; exact H
                            clear H
                            have H := H1
                            clear H1
                            by_cases c40 : a3 = true
                            · subst c40
                              have H1 : (if t306 = true then (if t312 = 0 then (some true) else ((ints_Signed.f x11_5 t312).bind fun t322 => ((ints_Signed.f x11_5 t307).bind fun t323 => (some ((decide (t322 < 0)) == (decide (t323 < 0))))))) else (some false)) = some r := by rw [if_pos rfl] at H; exact H
                              clear H
                              have H := H1
                              clear H1
                              by_cases c41 : t306 = true
                              · subst c41
                                have H1 : (if t312 = 0 then (some true) else ((ints_Signed.f x11_5 t312).bind fun t322 => ((ints_Signed.f x11_5 t307).bind fun t323 => (some ((decide (t322 < 0)) == (decide (t323 < 0))))))) = some r := by rw [if_pos rfl] at H; exact H
                                clear H
                                have H := H1
                                clear H1
                                by_cases c42 : t312 = 0
                                · rw [if_pos c42] at H
                                  have c42b0 : (t312 == 0) = true := beq_iff_eq.mpr c42
                                  have c42b1 : (t312 != 0) = false := bne_eq_false_iff_eq.mpr c42
                                  clear c42
                                  obtain rfl := Option.some.inj H
                                  go_wp2
                                  go_ret
                                  exact ⟨by first | rfl | (simp [errW_none, errW_some] <;> rfl) | (simp [*, errW_none, errW_some] <;> rfl), by repeat (first | (with_reducible first | exact HB.out | apply below_alloc | apply pw_below_drewN | apply below_drew1) | exact HB.out)⟩
                                · rw [if_neg c42] at H
                                  have c42b0 : (t312 == 0) = false := beq_eq_false_iff_ne.mpr c42
                                  have c42b1 : (t312 != 0) = true := bne_iff_ne.mpr c42
                                  replace H := Option.bind_eq_some_iff.mp H
                                  obtain ⟨t322, A430, H⟩ := H
                                  replace H : ((ints_Signed.f x11_5 t307).bind fun t323 => (some ((decide (t322 < 0)) == (decide (t323 < 0))))) = some r := H
                                  have A43 := Aside0.mk A430
                                  clear A430
                                  replace H := Option.bind_eq_some_iff.mp H
                                  obtain ⟨t323, A440, H⟩ := H
                                  replace H : (some ((decide (t322 < 0)) == (decide (t323 < 0)))) = some r := H
                                  have A44 := Aside0.mk A440
                                  clear A440
                                  obtain rfl := Option.some.inj H
                                  go_wp2_with (first | (go_at_call 21; (with_reducible refine (ints_Signed.calls x11_5 t312 t322 _ A43.out).mono ?_); rintro e w' ⟨rfl, ⟨nd, rfl⟩⟩) | (go_at_call 21; (with_reducible refine (ints_Signed.calls x11_5 t307 t323 _ A44.out).mono ?_); rintro e w' ⟨rfl, ⟨nd, rfl⟩⟩))
                                  go_ret
                                  exact ⟨by first | rfl | (simp [errW_none, errW_some] <;> rfl) | (simp [*, errW_none, errW_some] <;> rfl), by repeat (first | (with_reducible first | exact HB.out | apply below_alloc | apply pw_below_drewN | apply below_drew1) | exact HB.out)⟩
                              · replace c41 := Bool.eq_false_iff.mpr c41
                                subst c41
                                have H1 : (some false) = some r := by rw [if_neg (show ¬ (false = true) by decide)] at H; exact H
                                clear H
                                have H := H1
                                clear H1
                                exact absurd ((Option.some.inj H).trans HRT_.out) (by decide)
                            · replace c40 := Bool.eq_false_iff.mpr c40
                              subst c40
                              have H1 : (if t306 = true then (some (decide (t312 < t308))) else (some false)) = some r := by rw [if_neg (show ¬ (false = true) by decide)] at H; exact H
                              clear H
                              have H := H1
                              clear H1
                              by_cases c45 : t306 = true
                              · subst c45
                                have H1 : (some (decide (t312 < t308))) = some r := by rw [if_pos rfl] at H; exact H
                                clear H
                                have H := H1
                                clear H1
                                obtain rfl := Option.some.inj H
                                go_wp2
                                go_ret
                                exact ⟨by first | rfl | (simp [errW_none, errW_some] <;> rfl) | (simp [*, errW_none, errW_some] <;> rfl), by repeat (first | (with_reducible first | exact HB.out | apply below_alloc | apply pw_below_drewN | apply below_drew1) | exact HB.out)⟩
                              · replace c45 := Bool.eq_false_iff.mpr c45
                                subst c45
                                have H1 : (some false) = some r := by rw [if_neg (show ¬ (false = true) by decide)] at H; exact H
                                clear H
                                have H := H1
                                clear H1
                                exact absurd ((Option.some.inj H).trans HRT_.out) (by decide)

/-- THE ONE PURE STATEMENT of avocetlaw02_IntsDivide: yours. -/
def avocetlaw02_IntsDivide.Pure : Prop := ∀ (a0 : Int) (a1 : Int) (a2 : Bool) (a3 : Bool), (Lit.int .u64 a0).wf = true → (Lit.int .u64 a1).wf = true → ∃ k, avocetlaw02_IntsDivide.f k a0 a1 a2 a3 = some true
theorem avocetlaw02_IntsDivide.walk (P : avocetlaw02_IntsDivide.Pure) (a0 : Int) (a1 : Int) (a2 : Bool) (a3 : Bool) (w : World) (hG : Globs w) (w0 : (Lit.int .u64 a0).wf = true) (w1 : (Lit.int .u64 a1).wf = true) :
    Calls Tryd.prog 9 #[.int .u64 a0, .int .u64 a1, .bool a2, .bool a3] w fun e w' => e = .returned (.bool true) ∧ Below w.heap.size w w' := by
  obtain ⟨k, h⟩ := P a0 a1 a2 a3 w0 w1
  refine (avocetlaw02_IntsDivide.calls k a0 a1 a2 a3 true w hG rfl h).mono ?_
  rintro e w' ⟨rfl, hd⟩
  exact ⟨rfl, hd⟩

/-! ### avocetref02_Fits: function 22 -/
def avocetref02_Fits.f (a0 : Int) (a1 : Int) : Option (Bool) := if a0 = 126 then (some true) else (if a0 = 127 then (some (decide (a1 < 4294967296))) else (some false))
set_option maxHeartbeats 8000000 in
set_option maxRecDepth 100000 in
theorem avocetref02_Fits.calls (a0 : Int) (a1 : Int) (r : Bool) (w : World) (h : avocetref02_Fits.f a0 a1 = some r) :
    Calls Tryd.prog 22 #[.int .u8 a0, .int .u64 a1] w fun e w' => e = .returned (.bool r) ∧ Drawn0 w w' := by
  have H : (if a0 = 126 then (some true) else (if a0 = 127 then (some (decide (a1 < 4294967296))) else (some false))) = some r := h
  clear h
  by_cases c3 : a0 = 126
  · rw [if_pos c3] at H
    have c3b0 : (a0 == 126) = true := beq_iff_eq.mpr c3
    have c3b1 : (a0 != 126) = false := bne_eq_false_iff_eq.mpr c3
    clear c3
    obtain rfl := Option.some.inj H
    go_enter Tryd.func22, Tryd.ntmps22
    go_wp2
    go_ret
    exact ⟨by first | rfl | (simp; done) | (simp [*]; done), by repeat (first | exact Drawn0.refl _ | apply Drawn0.step)⟩
  · rw [if_neg c3] at H
    have c3b0 : (a0 == 126) = false := beq_eq_false_iff_ne.mpr c3
    have c3b1 : (a0 != 126) = true := bne_iff_ne.mpr c3
    by_cases c4 : a0 = 127
    · rw [if_pos c4] at H
      have c4b0 : (a0 == 127) = true := beq_iff_eq.mpr c4
      have c4b1 : (a0 != 127) = false := bne_eq_false_iff_eq.mpr c4
      clear c4
      obtain rfl := Option.some.inj H
      go_enter Tryd.func22, Tryd.ntmps22
      go_wp2
      go_ret
      exact ⟨by first | rfl | (simp; done) | (simp [*]; done), by repeat (first | exact Drawn0.refl _ | apply Drawn0.step)⟩
    · rw [if_neg c4] at H
      have c4b0 : (a0 == 127) = false := beq_eq_false_iff_ne.mpr c4
      have c4b1 : (a0 != 127) = true := bne_iff_ne.mpr c4
      obtain rfl := Option.some.inj H
      go_enter Tryd.func22, Tryd.ntmps22
      go_wp2
      go_ret
      exact ⟨by first | rfl | (simp; done) | (simp [*]; done), by repeat (first | exact Drawn0.refl _ | apply Drawn0.step)⟩

/-! ### avocetref02_Signed: function 23 -/
def avocetref02_Signed.f (a0 : Int) (a1 : Int) : Option (Int) := if a0 = 127 then ((avocetref02_low.f a1 32).bind fun t324 => ((avocetref02_signed.f t324 32).bind fun t325 => (some t325))) else (some (wrap64 (a1)))
set_option maxHeartbeats 8000000 in
set_option maxRecDepth 100000 in
theorem avocetref02_Signed.calls (a0 : Int) (a1 : Int) (r : Int) (w : World) (h : avocetref02_Signed.f a0 a1 = some r) :
    Calls Tryd.prog 23 #[.int .u8 a0, .int .u64 a1] w fun e w' => e = .returned (.int .i64 r) ∧ Drawn0 w w' := by
  have H : (if a0 = 127 then ((avocetref02_low.f a1 32).bind fun t324 => ((avocetref02_signed.f t324 32).bind fun t325 => (some t325))) else (some (wrap64 (a1)))) = some r := h
  clear h
  by_cases c3 : a0 = 127
  · rw [if_pos c3] at H
    have c3b0 : (a0 == 127) = true := beq_iff_eq.mpr c3
    have c3b1 : (a0 != 127) = false := bne_eq_false_iff_eq.mpr c3
    clear c3
    replace H := Option.bind_eq_some_iff.mp H
    obtain ⟨t324, A40, H⟩ := H
    replace H : ((avocetref02_signed.f t324 32).bind fun t325 => (some t325)) = some r := H
    have A4 := Aside0.mk A40
    clear A40
    replace H := Option.bind_eq_some_iff.mp H
    obtain ⟨t325, A50, H⟩ := H
    replace H : (some t325) = some r := H
    have A5 := Aside0.mk A50
    clear A50
    obtain rfl := Option.some.inj H
    go_enter Tryd.func23, Tryd.ntmps23
    go_wp2_with (first | ((with_reducible refine gate_callee (f := 38) rfl ?_); refine goesL_ (some 8) rfl rfl Tryd.func38 (by kernel_rfl) rfl #[.int .u64 a1, .int .i64 32] rfl (by (try simp only [List.map_toArray, List.map_cons, List.map_nil]); first | done | rfl | (simp only [List.length_drop, List.length_take]; rfl)) ?_; (with_reducible refine (avocetref02_low.calls a1 32 t324 _ A4.out).mono ?_); rintro e w' ⟨rfl, ⟨nd, rfl⟩⟩; refine ⟨_, rfl, ?_⟩) | ((with_reducible refine gate_callee (f := 39) rfl ?_); refine goesL_ (some 9) rfl rfl Tryd.func39 (by kernel_rfl) rfl #[.int .u64 t324, .int .i64 32] rfl (by (try simp only [List.map_toArray, List.map_cons, List.map_nil]); first | done | rfl | (simp only [List.length_drop, List.length_take]; rfl)) ?_; (with_reducible refine (avocetref02_signed.calls t324 32 t325 _ A5.out).mono ?_); rintro e w' ⟨rfl, ⟨nd, rfl⟩⟩; refine ⟨_, rfl, ?_⟩))
    go_ret
    exact ⟨by first | rfl | (simp; done) | (simp [*]; done), by repeat (first | exact Drawn0.refl _ | apply Drawn0.step)⟩
  · rw [if_neg c3] at H
    have c3b0 : (a0 == 127) = false := beq_eq_false_iff_ne.mpr c3
    have c3b1 : (a0 != 127) = true := bne_iff_ne.mpr c3
    obtain rfl := Option.some.inj H
    go_enter Tryd.func23, Tryd.ntmps23
    go_wp2
    go_ret
    exact ⟨by first | rfl | (simp; done) | (simp [*]; done), by repeat (first | exact Drawn0.refl _ | apply Drawn0.step)⟩

/-! ### avocetref02_Value: function 24 -/
def avocetref02_Value.f (a0 : Int) (a1 : Int) : Option (Int) := if a0 = 127 then ((avocetref02_low.f (IntKind.u64.wrap (a1)) 32).bind fun t326 => (some t326)) else (some (IntKind.u64.wrap (a1)))
set_option maxHeartbeats 8000000 in
set_option maxRecDepth 100000 in
theorem avocetref02_Value.calls (a0 : Int) (a1 : Int) (r : Int) (w : World) (h : avocetref02_Value.f a0 a1 = some r) :
    Calls Tryd.prog 24 #[.int .u8 a0, .int .i64 a1] w fun e w' => e = .returned (.int .u64 r) ∧ Drawn0 w w' := by
  have H : (if a0 = 127 then ((avocetref02_low.f (IntKind.u64.wrap (a1)) 32).bind fun t326 => (some t326)) else (some (IntKind.u64.wrap (a1)))) = some r := h
  clear h
  by_cases c3 : a0 = 127
  · rw [if_pos c3] at H
    have c3b0 : (a0 == 127) = true := beq_iff_eq.mpr c3
    have c3b1 : (a0 != 127) = false := bne_eq_false_iff_eq.mpr c3
    clear c3
    replace H := Option.bind_eq_some_iff.mp H
    obtain ⟨t326, A40, H⟩ := H
    replace H : (some t326) = some r := H
    have A4 := Aside0.mk A40
    clear A40
    obtain rfl := Option.some.inj H
    go_enter Tryd.func24, Tryd.ntmps24
    go_wp2_with (first | ((with_reducible refine gate_callee (f := 38) rfl ?_); refine goesL_ (some 9) rfl rfl Tryd.func38 (by kernel_rfl) rfl #[.int .u64 (IntKind.u64.wrap (a1)), .int .i64 32] rfl (by (try simp only [List.map_toArray, List.map_cons, List.map_nil]); first | done | rfl | (simp only [List.length_drop, List.length_take]; rfl)) ?_; (with_reducible refine (avocetref02_low.calls (IntKind.u64.wrap (a1)) 32 t326 _ A4.out).mono ?_); rintro e w' ⟨rfl, ⟨nd, rfl⟩⟩; refine ⟨_, rfl, ?_⟩))
    go_ret
    exact ⟨by first | rfl | (simp; done) | (simp [*]; done), by repeat (first | exact Drawn0.refl _ | apply Drawn0.step)⟩
  · rw [if_neg c3] at H
    have c3b0 : (a0 == 127) = false := beq_eq_false_iff_ne.mpr c3
    have c3b1 : (a0 != 127) = true := bne_iff_ne.mpr c3
    obtain rfl := Option.some.inj H
    go_enter Tryd.func24, Tryd.ntmps24
    go_wp2
    go_ret
    exact ⟨by first | rfl | (simp; done) | (simp [*]; done), by repeat (first | exact Drawn0.refl _ | apply Drawn0.step)⟩

end Go.Proofs.YtjonlcnmpejamaaDoor.G
