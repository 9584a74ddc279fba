-- Made by gprint.py (mine) over the kit's print.py, out of the translation; parts of it typed by hand.
import Derived.Test.YtjonlcnmpejamaaDoorG0
import Derived.Test.YtjonlcnmpejamaaDoorG1
import Derived.Test.YtjonlcnmpejamaaDoorG2
namespace Go.Proofs.YtjonlcnmpejamaaDoor.G
open Go.RowKit Go.Proofs.YtjonlcnmpejamaaDoorW.PrintWords Go.Proofs.YtjonlcnmpejamaaDoorW.PrintLast Go.Proofs.YtjonlcnmpejamaaDoorW.PrintMore
attribute [local go_sem] max2_int min2_int max_two min_two max_three min_three max_four min_four   -- for this text's walks alone
set_option linter.unusedVariables false
set_option linter.unusedSimpArgs false

/-! ### avocetlaw02_IntsCount: function 8 -/
def avocetlaw02_IntsCount.j0 : Nat → Int → Int → Bool → Int → Int → Int → Option (Bool)
  | 0, _, _, _, _, _, _ => none
  | k + 1, x0, x1, x7, x8, x9, x10 => if x9 = 0 then (none) else ((ints_Two.f x10 1 (Int.tmod x1 x9)).bind fun bt287 => ((ints_One.f k x8 bt287.1).bind fun bt290 => ((ints_One.f k (wrap64 (x8 + 1)) bt287.1).bind fun bt292 => ((ints_One.f k (wrap64 (x8 + 2)) bt287.1).bind fun bt294 => ((ints_One.f k x8 x0).bind fun bt296 => ((ints_One.f k (wrap64 (x8 + 1)) x0).bind fun bt298 => ((ints_One.f k (wrap64 (x8 + 2)) x0).bind fun bt300 => ((ints_One.f k x8 0).bind fun bt302 => ((ints_One.f k (wrap64 (x8 + 1)) 0).bind fun bt304 => (if x7 = true then (if bt290.1 = (IntKind.u64.wrap ((IntKind.u64.wrap (x9 - 1)) - (Int.tmod x1 x9))) then (if bt292.1 = (Int.tmod x1 x9) then (if bt294.1 = 1 then (if bt302.1 = x9 then (if bt304.1 = x9 then (if bt300.1 = 0 then (if bt300.1 > 0 then (some true) else (if bt296.1 = x9 then (some (bt298.1 == x9)) else (some false))) else (if (IntKind.u64.wrap ((IntKind.u64.wrap (bt296.1 + bt298.1)) + bt300.1)) ≤ x9 then (if bt300.1 > 0 then (some true) else (if bt296.1 = x9 then (some (bt298.1 == x9)) else (some false))) else (some false))) else (some false)) else (some false)) else (some false)) else (some false)) else (some false)) else (some false)))))))))))
def avocetlaw02_IntsCount.f (k : Nat) (a0 : Int) (a1 : Int) (a2 : Bool) : Option (Bool) := (avocetlaw02_awake.f k).bind fun t286 => (if a2 = true then (avocetlaw02_IntsCount.j0 k a0 a1 t286 121 64 134) else (avocetlaw02_IntsCount.j0 k a0 a1 t286 103 32 116))
theorem avocetlaw02_IntsCount.mono_l : ∀ k, (∀ y0 y1 y2 y3 y4 y5, LeO (avocetlaw02_IntsCount.j0 k y0 y1 y2 y3 y4 y5) (avocetlaw02_IntsCount.j0 (k + 1) y0 y1 y2 y3 y4 y5))
  | 0 => fun _ _ _ _ _ _ r h => by simp [avocetlaw02_IntsCount.j0] at h
  | k + 1 => by
    have ih0 := avocetlaw02_IntsCount.mono_l k
    · intro y0 y1 y2 y3 y4 y5
      unfold avocetlaw02_IntsCount.j0
      repeat' first
      | (with_reducible exact ih0 _ _ _ _ _ _)
      | (with_reducible exact avocetlaw02_awake.mono _)
      | (with_reducible exact ints_One.mono _ _ _)
      | (with_reducible exact LeO.refl _)
      | (with_reducible exact LeO.none _)
      | (with_reducible refine LeO.ite ?_ ?_)
      | (with_reducible refine LeO.bind ?_ (fun _ => ?_))
      | exact ih0 _ _ _ _ _ _
      | exact avocetlaw02_awake.mono _
      | exact ints_One.mono _ _ _
      | exact LeO.none _
      | refine LeO.ite ?_ ?_
      | refine LeO.bind ?_ (fun _ => ?_)
theorem avocetlaw02_IntsCount.mono : ∀ a0 a1 a2 k, LeO (avocetlaw02_IntsCount.f k a0 a1 a2) (avocetlaw02_IntsCount.f (k + 1) a0 a1 a2) := by
  intro a0 a1 a2 k
  have ih0 := avocetlaw02_IntsCount.mono_l k
  unfold avocetlaw02_IntsCount.f
  repeat' first
      | (with_reducible exact ih0 _ _ _ _ _ _)
      | (with_reducible exact avocetlaw02_awake.mono _)
      | (with_reducible exact ints_One.mono _ _ _)
      | (with_reducible exact LeO.refl _)
      | (with_reducible exact LeO.none _)
      | (with_reducible refine LeO.ite ?_ ?_)
      | (with_reducible refine LeO.bind ?_ (fun _ => ?_))
      | exact ih0 _ _ _ _ _ _
      | exact avocetlaw02_awake.mono _
      | exact ints_One.mono _ _ _
      | exact LeO.none _
      | refine LeO.ite ?_ ?_
      | refine LeO.bind ?_ (fun _ => ?_)
set_option maxHeartbeats 8000000 in
set_option maxRecDepth 100000 in
theorem avocetlaw02_IntsCount.calls (k : Nat) (a0 : Int) (a1 : Int) (a2 : Bool) (r : Bool) (w : World) (hG : Globs w) (hr_ : r = true) (h : avocetlaw02_IntsCount.f k a0 a1 a2 = some r) :
    Calls Tryd.prog 8 #[.int .u64 a0, .int .u64 a1, .bool a2] w fun e w' => e = .returned (.bool r) ∧ Below w.heap.size w w' := by
  have HRT_ := Aside0.mk hr_
  clear hr_
  have HG := Aside0.mk hG
  clear hG
  have HB := Aside0.mk (Below.refl w.heap.size w)
  have H : ((avocetlaw02_awake.f k).bind fun t286 => (if a2 = true then (avocetlaw02_IntsCount.j0 k a0 a1 t286 121 64 134) else (avocetlaw02_IntsCount.j0 k a0 a1 t286 103 32 116))) = some r := h
  clear h
  replace H := Option.bind_eq_some_iff.mp H
  obtain ⟨t286, A40, H⟩ := H
  replace H : (if a2 = true then (avocetlaw02_IntsCount.j0 k a0 a1 t286 121 64 134) else (avocetlaw02_IntsCount.j0 k a0 a1 t286 103 32 116)) = some r := H
  have A4 := Aside0.mk A40
  clear A40
  have HC5 := Aside0.mk H
  clear H
  go_enter Tryd.func8, Tryd.ntmps8
  go_upto_if 32 with (first | ((with_reducible refine gate_callee (f := 13) rfl ?_); refine goesL_ (some 31) rfl rfl Tryd.func13 (by kernel_rfl) rfl #[] rfl (by (try simp only [List.map_toArray, List.map_cons, List.map_nil]); first | done | rfl | (simp only [List.length_drop, List.length_take]; rfl)) ?_; (with_reducible refine (avocetlaw02_awake.calls k  t286 _ ?side1 A4.out).mono ?_); (case side1 => first | exact Globs.below HG.out HB.out | exact Globs.below HG.out (by repeat (first | (with_reducible first | exact HB.out | apply below_alloc | apply pw_below_drewN | apply below_drew1) | exact HB.out)) | (repeat (first | exact HG.out | (with_reducible refine Globs.alloc ?_ _) | (with_reducible refine Globs.drewN ?_ _) | (with_reducible refine Globs.drew ?_)))); rintro e w6 ⟨rfl, hb⟩; refine ⟨_, rfl, ?_⟩; have n0_ := Aside0.mk (below_step (by repeat (first | (with_reducible first | exact HB.out | apply below_alloc | apply pw_below_drewN | apply below_drew1) | exact HB.out)) hb); clear HB; have HB := n0_; clear n0_; (try clear hb); (try clear hb2); (try clear hk); (try clear hi)))
  (try simp only [Act.put, List.setIfInBounds_toArray, List.set_cons_zero, List.set_cons_succ])
  go_cut [8, 9, 10] (fun v8 v9 v10 wc => ∃ (kq : Nat) (x8_4 : Int) (x9_4 : Int) (x10_4 : Int), v8 = .int .i64 x8_4 ∧ v9 = .int .u64 x9_4 ∧ v10 = .int .i64 x10_4 ∧ Aside0 (avocetlaw02_IntsCount.j0 kq a0 a1 t286 x8_4 x9_4 x10_4 = some r) ∧ Aside0 (kq ≤ k) ∧ Aside0 (Below w.heap.size w wc))
  case first =>
    have H := HC5.out
    clear HC5
    by_cases c7 : a2 = true
    · subst c7
      have H1 : (avocetlaw02_IntsCount.j0 k a0 a1 t286 121 64 134) = some r := by rw [if_pos rfl] at H; exact H
      clear H
      have H := H1
      clear H1
      have H' := Aside0.mk H
      clear H
      go_wp2
      go_meet
      case rel => exact ⟨_, (121), (64), (134), (by first | rfl | (simp; done) | (simp [*]; done)), (by first | rfl | (simp; done) | (simp [*]; done)), (by first | rfl | (simp; done) | (simp [*]; done)), H', ⟨by first | omega | exact Nat.le_refl _⟩, ⟨by repeat (first | (with_reducible first | exact HB.out | apply below_alloc | apply pw_below_drewN | apply below_drew1) | exact HB.out)⟩⟩
    · replace c7 := Bool.eq_false_iff.mpr c7
      subst c7
      have H1 : (avocetlaw02_IntsCount.j0 k a0 a1 t286 103 32 116) = some r := by rw [if_neg (show ¬ (false = true) by decide)] at H; exact H
      clear H
      have H := H1
      clear H1
      have H' := Aside0.mk H
      clear H
      go_wp2
      go_meet
      case rel => exact ⟨_, (103), (32), (116), (by first | rfl | (simp; done) | (simp [*]; done)), (by first | rfl | (simp; done) | (simp [*]; done)), (by first | rfl | (simp; done) | (simp [*]; done)), H', ⟨by first | omega | exact Nat.le_refl _⟩, ⟨by repeat (first | (with_reducible first | exact HB.out | apply below_alloc | apply pw_below_drewN | apply below_drew1) | exact HB.out)⟩⟩
  case rest =>
    clear HC5
    try clear c1
    try clear p2
    try clear c7
    obtain ⟨kq, x8_4, x9_4, x10_4, rfl, rfl, rfl, HA, HJ4, HB⟩ := hcut
    cases kq with
    | zero => exact absurd HA.out (by simp [avocetlaw02_IntsCount.j0])
    | succ kj4 =>
      have H := HA.out
      clear HA
      simp only [avocetlaw02_IntsCount.j0] at H
      by_cases c8 : x9_4 = 0
      · rw [if_pos c8] at H
        exact absurd H (by simp)
      · rw [if_neg c8] at H
        have c8b0 : (x9_4 == 0) = false := beq_eq_false_iff_ne.mpr c8
        have c8b1 : (x9_4 != 0) = true := bne_iff_ne.mpr c8
        replace H := Option.bind_eq_some_iff.mp H
        obtain ⟨⟨t287, t288, t289⟩, A90, H⟩ := H
        replace H : ((ints_One.f kj4 x8_4 t287).bind fun bt290 => ((ints_One.f kj4 (wrap64 (x8_4 + 1)) t287).bind fun bt292 => ((ints_One.f kj4 (wrap64 (x8_4 + 2)) t287).bind fun bt294 => ((ints_One.f kj4 x8_4 a0).bind fun bt296 => ((ints_One.f kj4 (wrap64 (x8_4 + 1)) a0).bind fun bt298 => ((ints_One.f kj4 (wrap64 (x8_4 + 2)) a0).bind fun bt300 => ((ints_One.f kj4 x8_4 0).bind fun bt302 => ((ints_One.f kj4 (wrap64 (x8_4 + 1)) 0).bind fun bt304 => (if t286 = true then (if bt290.1 = (IntKind.u64.wrap ((IntKind.u64.wrap (x9_4 - 1)) - (Int.tmod a1 x9_4))) then (if bt292.1 = (Int.tmod a1 x9_4) then (if bt294.1 = 1 then (if bt302.1 = x9_4 then (if bt304.1 = x9_4 then (if bt300.1 = 0 then (if bt300.1 > 0 then (some true) else (if bt296.1 = x9_4 then (some (bt298.1 == x9_4)) else (some false))) else (if (IntKind.u64.wrap ((IntKind.u64.wrap (bt296.1 + bt298.1)) + bt300.1)) ≤ x9_4 then (if bt300.1 > 0 then (some true) else (if bt296.1 = x9_4 then (some (bt298.1 == x9_4)) else (some false))) else (some false))) else (some false)) else (some false)) else (some false)) else (some false)) else (some false)) else (some false)))))))))) = some r := H
        have A9 := Aside0.mk A90
        clear A90
        replace H := Option.bind_eq_some_iff.mp H
        obtain ⟨⟨t290, t291⟩, A100, H⟩ := H
        replace H : ((ints_One.f kj4 (wrap64 (x8_4 + 1)) t287).bind fun bt292 => ((ints_One.f kj4 (wrap64 (x8_4 + 2)) t287).bind fun bt294 => ((ints_One.f kj4 x8_4 a0).bind fun bt296 => ((ints_One.f kj4 (wrap64 (x8_4 + 1)) a0).bind fun bt298 => ((ints_One.f kj4 (wrap64 (x8_4 + 2)) a0).bind fun bt300 => ((ints_One.f kj4 x8_4 0).bind fun bt302 => ((ints_One.f kj4 (wrap64 (x8_4 + 1)) 0).bind fun bt304 => (if t286 = true then (if t290 = (IntKind.u64.wrap ((IntKind.u64.wrap (x9_4 - 1)) - (Int.tmod a1 x9_4))) then (if bt292.1 = (Int.tmod a1 x9_4) then (if bt294.1 = 1 then (if bt302.1 = x9_4 then (if bt304.1 = x9_4 then (if bt300.1 = 0 then (if bt300.1 > 0 then (some true) else (if bt296.1 = x9_4 then (some (bt298.1 == x9_4)) else (some false))) else (if (IntKind.u64.wrap ((IntKind.u64.wrap (bt296.1 + bt298.1)) + bt300.1)) ≤ x9_4 then (if bt300.1 > 0 then (some true) else (if bt296.1 = x9_4 then (some (bt298.1 == x9_4)) else (some false))) else (some false))) else (some false)) else (some false)) else (some false)) else (some false)) else (some false)) else (some false))))))))) = some r := H
        have A10 := Aside0.mk A100
        clear A100
        replace H := Option.bind_eq_some_iff.mp H
        obtain ⟨⟨t292, t293⟩, A110, H⟩ := H
        replace H : ((ints_One.f kj4 (wrap64 (x8_4 + 2)) t287).bind fun bt294 => ((ints_One.f kj4 x8_4 a0).bind fun bt296 => ((ints_One.f kj4 (wrap64 (x8_4 + 1)) a0).bind fun bt298 => ((ints_One.f kj4 (wrap64 (x8_4 + 2)) a0).bind fun bt300 => ((ints_One.f kj4 x8_4 0).bind fun bt302 => ((ints_One.f kj4 (wrap64 (x8_4 + 1)) 0).bind fun bt304 => (if t286 = true then (if t290 = (IntKind.u64.wrap ((IntKind.u64.wrap (x9_4 - 1)) - (Int.tmod a1 x9_4))) then (if t292 = (Int.tmod a1 x9_4) then (if bt294.1 = 1 then (if bt302.1 = x9_4 then (if bt304.1 = x9_4 then (if bt300.1 = 0 then (if bt300.1 > 0 then (some true) else (if bt296.1 = x9_4 then (some (bt298.1 == x9_4)) else (some false))) else (if (IntKind.u64.wrap ((IntKind.u64.wrap (bt296.1 + bt298.1)) + bt300.1)) ≤ x9_4 then (if bt300.1 > 0 then (some true) else (if bt296.1 = x9_4 then (some (bt298.1 == x9_4)) else (some false))) else (some false))) else (some false)) else (some false)) else (some false)) else (some false)) else (some false)) else (some false)))))))) = some r := H
        have A11 := Aside0.mk A110
        clear A110
        replace H := Option.bind_eq_some_iff.mp H
        obtain ⟨⟨t294, t295⟩, A120, H⟩ := H
        replace H : ((ints_One.f kj4 x8_4 a0).bind fun bt296 => ((ints_One.f kj4 (wrap64 (x8_4 + 1)) a0).bind fun bt298 => ((ints_One.f kj4 (wrap64 (x8_4 + 2)) a0).bind fun bt300 => ((ints_One.f kj4 x8_4 0).bind fun bt302 => ((ints_One.f kj4 (wrap64 (x8_4 + 1)) 0).bind fun bt304 => (if t286 = true then (if t290 = (IntKind.u64.wrap ((IntKind.u64.wrap (x9_4 - 1)) - (Int.tmod a1 x9_4))) then (if t292 = (Int.tmod a1 x9_4) then (if t294 = 1 then (if bt302.1 = x9_4 then (if bt304.1 = x9_4 then (if bt300.1 = 0 then (if bt300.1 > 0 then (some true) else (if bt296.1 = x9_4 then (some (bt298.1 == x9_4)) else (some false))) else (if (IntKind.u64.wrap ((IntKind.u64.wrap (bt296.1 + bt298.1)) + bt300.1)) ≤ x9_4 then (if bt300.1 > 0 then (some true) else (if bt296.1 = x9_4 then (some (bt298.1 == x9_4)) else (some false))) else (some false))) else (some false)) else (some false)) else (some false)) else (some false)) else (some false)) else (some false))))))) = some r := H
        have A12 := Aside0.mk A120
        clear A120
        replace H := Option.bind_eq_some_iff.mp H
        obtain ⟨⟨t296, t297⟩, A130, H⟩ := H
        replace H : ((ints_One.f kj4 (wrap64 (x8_4 + 1)) a0).bind fun bt298 => ((ints_One.f kj4 (wrap64 (x8_4 + 2)) a0).bind fun bt300 => ((ints_One.f kj4 x8_4 0).bind fun bt302 => ((ints_One.f kj4 (wrap64 (x8_4 + 1)) 0).bind fun bt304 => (if t286 = true then (if t290 = (IntKind.u64.wrap ((IntKind.u64.wrap (x9_4 - 1)) - (Int.tmod a1 x9_4))) then (if t292 = (Int.tmod a1 x9_4) then (if t294 = 1 then (if bt302.1 = x9_4 then (if bt304.1 = x9_4 then (if bt300.1 = 0 then (if bt300.1 > 0 then (some true) else (if t296 = x9_4 then (some (bt298.1 == x9_4)) else (some false))) else (if (IntKind.u64.wrap ((IntKind.u64.wrap (t296 + bt298.1)) + bt300.1)) ≤ x9_4 then (if bt300.1 > 0 then (some true) else (if t296 = x9_4 then (some (bt298.1 == x9_4)) else (some false))) else (some false))) else (some false)) else (some false)) else (some false)) else (some false)) else (some false)) else (some false)))))) = some r := H
        have A13 := Aside0.mk A130
        clear A130
        replace H := Option.bind_eq_some_iff.mp H
        obtain ⟨⟨t298, t299⟩, A140, H⟩ := H
        replace H : ((ints_One.f kj4 (wrap64 (x8_4 + 2)) a0).bind fun bt300 => ((ints_One.f kj4 x8_4 0).bind fun bt302 => ((ints_One.f kj4 (wrap64 (x8_4 + 1)) 0).bind fun bt304 => (if t286 = true then (if t290 = (IntKind.u64.wrap ((IntKind.u64.wrap (x9_4 - 1)) - (Int.tmod a1 x9_4))) then (if t292 = (Int.tmod a1 x9_4) then (if t294 = 1 then (if bt302.1 = x9_4 then (if bt304.1 = x9_4 then (if bt300.1 = 0 then (if bt300.1 > 0 then (some true) else (if t296 = x9_4 then (some (t298 == x9_4)) else (some false))) else (if (IntKind.u64.wrap ((IntKind.u64.wrap (t296 + t298)) + bt300.1)) ≤ x9_4 then (if bt300.1 > 0 then (some true) else (if t296 = x9_4 then (some (t298 == x9_4)) else (some false))) else (some false))) else (some false)) else (some false)) else (some false)) else (some false)) else (some false)) else (some false))))) = some r := H
        have A14 := Aside0.mk A140
        clear A140
        replace H := Option.bind_eq_some_iff.mp H
        obtain ⟨⟨t300, t301⟩, A150, H⟩ := H
        replace H : ((ints_One.f kj4 x8_4 0).bind fun bt302 => ((ints_One.f kj4 (wrap64 (x8_4 + 1)) 0).bind fun bt304 => (if t286 = true then (if t290 = (IntKind.u64.wrap ((IntKind.u64.wrap (x9_4 - 1)) - (Int.tmod a1 x9_4))) then (if t292 = (Int.tmod a1 x9_4) then (if t294 = 1 then (if bt302.1 = x9_4 then (if bt304.1 = x9_4 then (if t300 = 0 then (if t300 > 0 then (some true) else (if t296 = x9_4 then (some (t298 == x9_4)) else (some false))) else (if (IntKind.u64.wrap ((IntKind.u64.wrap (t296 + t298)) + t300)) ≤ x9_4 then (if t300 > 0 then (some true) else (if t296 = x9_4 then (some (t298 == x9_4)) else (some false))) else (some false))) else (some false)) else (some false)) else (some false)) else (some false)) else (some false)) else (some false)))) = some r := H
        have A15 := Aside0.mk A150
        clear A150
        replace H := Option.bind_eq_some_iff.mp H
        obtain ⟨⟨t302, t303⟩, A160, H⟩ := H
        replace H : ((ints_One.f kj4 (wrap64 (x8_4 + 1)) 0).bind fun bt304 => (if t286 = true then (if t290 = (IntKind.u64.wrap ((IntKind.u64.wrap (x9_4 - 1)) - (Int.tmod a1 x9_4))) then (if t292 = (Int.tmod a1 x9_4) then (if t294 = 1 then (if t302 = x9_4 then (if bt304.1 = x9_4 then (if t300 = 0 then (if t300 > 0 then (some true) else (if t296 = x9_4 then (some (t298 == x9_4)) else (some false))) else (if (IntKind.u64.wrap ((IntKind.u64.wrap (t296 + t298)) + t300)) ≤ x9_4 then (if t300 > 0 then (some true) else (if t296 = x9_4 then (some (t298 == x9_4)) else (some false))) else (some false))) else (some false)) else (some false)) else (some false)) else (some false)) else (some false)) else (some false))) = some r := H
        have A16 := Aside0.mk A160
        clear A160
        replace H := Option.bind_eq_some_iff.mp H
        obtain ⟨⟨t304, t305⟩, A170, H⟩ := H
        replace H : (if t286 = true then (if t290 = (IntKind.u64.wrap ((IntKind.u64.wrap (x9_4 - 1)) - (Int.tmod a1 x9_4))) then (if t292 = (Int.tmod a1 x9_4) then (if t294 = 1 then (if t302 = x9_4 then (if t304 = x9_4 then (if t300 = 0 then (if t300 > 0 then (some true) else (if t296 = x9_4 then (some (t298 == x9_4)) else (some false))) else (if (IntKind.u64.wrap ((IntKind.u64.wrap (t296 + t298)) + t300)) ≤ x9_4 then (if t300 > 0 then (some true) else (if t296 = x9_4 then (some (t298 == x9_4)) else (some false))) else (some false))) else (some false)) else (some false)) else (some false)) else (some false)) else (some false)) else (some false)) = some r := H
        have A17 := Aside0.mk A170
        clear A170
        by_cases c18 : t286 = true
        · subst c18
          have H1 : (if t290 = (IntKind.u64.wrap ((IntKind.u64.wrap (x9_4 - 1)) - (Int.tmod a1 x9_4))) then (if t292 = (Int.tmod a1 x9_4) then (if t294 = 1 then (if t302 = x9_4 then (if t304 = x9_4 then (if t300 = 0 then (if t300 > 0 then (some true) else (if t296 = x9_4 then (some (t298 == x9_4)) else (some false))) else (if (IntKind.u64.wrap ((IntKind.u64.wrap (t296 + t298)) + t300)) ≤ x9_4 then (if t300 > 0 then (some true) else (if t296 = x9_4 then (some (t298 == x9_4)) else (some false))) else (some false))) else (some false)) else (some false)) else (some false)) else (some false)) else (some false)) = some r := by rw [if_pos rfl] at H; exact H
          clear H
          have H := H1
          clear H1
          by_cases c19 : t290 = (IntKind.u64.wrap ((IntKind.u64.wrap (x9_4 - 1)) - (Int.tmod a1 x9_4)))
          · rw [if_pos c19] at H
            have c19b0 : (t290 == (IntKind.u64.wrap ((IntKind.u64.wrap (x9_4 - 1)) - (Int.tmod a1 x9_4)))) = true := beq_iff_eq.mpr c19
            have c19b1 : (t290 != (IntKind.u64.wrap ((IntKind.u64.wrap (x9_4 - 1)) - (Int.tmod a1 x9_4)))) = false := bne_eq_false_iff_eq.mpr c19
            clear c19
            by_cases c20 : t292 = (Int.tmod a1 x9_4)
            · rw [if_pos c20] at H
              have c20b0 : (t292 == (Int.tmod a1 x9_4)) = true := beq_iff_eq.mpr c20
              have c20b1 : (t292 != (Int.tmod a1 x9_4)) = false := bne_eq_false_iff_eq.mpr c20
              clear c20
              by_cases c21 : t294 = 1
              · rw [if_pos c21] at H
                have c21b0 : (t294 == 1) = true := beq_iff_eq.mpr c21
                have c21b1 : (t294 != 1) = false := bne_eq_false_iff_eq.mpr c21
                clear c21
                by_cases c22 : t302 = x9_4
                · rw [if_pos c22] at H
                  have c22b0 : (t302 == x9_4) = true := beq_iff_eq.mpr c22
                  have c22b1 : (t302 != x9_4) = false := bne_eq_false_iff_eq.mpr c22
                  clear c22
                  by_cases c23 : t304 = x9_4
                  · rw [if_pos c23] at H
                    have c23b0 : (t304 == x9_4) = true := beq_iff_eq.mpr c23
                    have c23b1 : (t304 != x9_4) = false := bne_eq_false_iff_eq.mpr c23
                    clear c23
                    by_cases c24 : t300 = 0
                    · rw [if_pos c24] at H
                      have c24b0 : (t300 == 0) = true := beq_iff_eq.mpr c24
                      have c24b1 : (t300 != 0) = false := bne_eq_false_iff_eq.mpr c24
                      clear c24
                      by_cases c25 : t300 > 0
                      · rw [if_pos c25] at H
                        have c25b0 : decide (0 < t300) = true := decide_eq_true c25
                        clear c25
                        obtain rfl := Option.some.inj H
                        go_wp2_with (first | ((with_reducible refine gate_callee (f := 16) rfl ?_); refine goesL_ (some 39) rfl rfl Tryd.func16 (by kernel_rfl) rfl #[.int .i64 x10_4, .int .u64 1, .int .u64 (Int.tmod a1 x9_4)] rfl (by (try simp only [List.map_toArray, List.map_cons, List.map_nil]); first | done | rfl | (simp only [List.length_drop, List.length_take]; rfl)) ?_; (with_reducible refine (ints_Two.calls x10_4 1 (Int.tmod a1 x9_4) t287 t288 t289 _ A9.out).mono ?_); rintro e w26 ⟨rfl, hb⟩; refine ⟨_, rfl, ?_⟩; have n0_ := Aside0.mk (below_step (by repeat (first | (with_reducible first | exact HB.out | apply below_alloc | apply pw_below_drewN | apply below_drew1) | exact HB.out)) hb); clear HB; have HB := n0_; clear n0_; (try clear hb); (try clear hb2); (try clear hk); (try clear hi)) | ((with_reducible refine gate_callee (f := 15) rfl ?_); refine goesL_ (some 46) rfl rfl Tryd.func15 (by kernel_rfl) rfl #[.int .i64 x8_4, .int .u64 t287] rfl (by (try simp only [List.map_toArray, List.map_cons, List.map_nil]); first | done | rfl | (simp only [List.length_drop, List.length_take]; rfl)) ?_; (with_reducible refine (ints_One.calls kj4 x8_4 t287 t290 t291 _ ?side1 A10.out).mono ?_); (case side1 => first | exact Globs.below HG.out HB.out | exact Globs.below HG.out (by repeat (first | (with_reducible first | exact HB.out | apply below_alloc | apply pw_below_drewN | apply below_drew1) | exact HB.out)) | (repeat (first | exact HG.out | (with_reducible refine Globs.alloc ?_ _) | (with_reducible refine Globs.drewN ?_ _) | (with_reducible refine Globs.drew ?_)))); rintro e w' ⟨rfl, ⟨nd, rfl⟩⟩; refine ⟨_, rfl, ?_⟩) | ((with_reducible refine gate_callee (f := 15) rfl ?_); refine goesL_ (some 53) rfl rfl Tryd.func15 (by kernel_rfl) rfl #[.int .i64 (wrap64 (x8_4 + 1)), .int .u64 t287] rfl (by (try simp only [List.map_toArray, List.map_cons, List.map_nil]); first | done | rfl | (simp only [List.length_drop, List.length_take]; rfl)) ?_; (with_reducible refine (ints_One.calls kj4 (wrap64 (x8_4 + 1)) t287 t292 t293 _ ?side1 A11.out).mono ?_); (case side1 => first | exact Globs.below HG.out HB.out | exact Globs.below HG.out (by repeat (first | (with_reducible first | exact HB.out | apply below_alloc | apply pw_below_drewN | apply below_drew1) | exact HB.out)) | (repeat (first | exact HG.out | (with_reducible refine Globs.alloc ?_ _) | (with_reducible refine Globs.drewN ?_ _) | (with_reducible refine Globs.drew ?_)))); rintro e w' ⟨rfl, ⟨nd, rfl⟩⟩; refine ⟨_, rfl, ?_⟩) | ((with_reducible refine gate_callee (f := 15) rfl ?_); refine goesL_ (some 60) rfl rfl Tryd.func15 (by kernel_rfl) rfl #[.int .i64 (wrap64 (x8_4 + 2)), .int .u64 t287] rfl (by (try simp only [List.map_toArray, List.map_cons, List.map_nil]); first | done | rfl | (simp only [List.length_drop, List.length_take]; rfl)) ?_; (with_reducible refine (ints_One.calls kj4 (wrap64 (x8_4 + 2)) t287 t294 t295 _ ?side1 A12.out).mono ?_); (case side1 => first | exact Globs.below HG.out HB.out | exact Globs.below HG.out (by repeat (first | (with_reducible first | exact HB.out | apply below_alloc | apply pw_below_drewN | apply below_drew1) | exact HB.out)) | (repeat (first | exact HG.out | (with_reducible refine Globs.alloc ?_ _) | (with_reducible refine Globs.drewN ?_ _) | (with_reducible refine Globs.drew ?_)))); rintro e w' ⟨rfl, ⟨nd, rfl⟩⟩; refine ⟨_, rfl, ?_⟩) | ((with_reducible refine gate_callee (f := 15) rfl ?_); refine goesL_ (some 66) rfl rfl Tryd.func15 (by kernel_rfl) rfl #[.int .i64 x8_4, .int .u64 a0] rfl (by (try simp only [List.map_toArray, List.map_cons, List.map_nil]); first | done | rfl | (simp only [List.length_drop, List.length_take]; rfl)) ?_; (with_reducible refine (ints_One.calls kj4 x8_4 a0 t296 t297 _ ?side1 A13.out).mono ?_); (case side1 => first | exact Globs.below HG.out HB.out | exact Globs.below HG.out (by repeat (first | (with_reducible first | exact HB.out | apply below_alloc | apply pw_below_drewN | apply below_drew1) | exact HB.out)) | (repeat (first | exact HG.out | (with_reducible refine Globs.alloc ?_ _) | (with_reducible refine Globs.drewN ?_ _) | (with_reducible refine Globs.drew ?_)))); rintro e w' ⟨rfl, ⟨nd, rfl⟩⟩; refine ⟨_, rfl, ?_⟩) | ((with_reducible refine gate_callee (f := 15) rfl ?_); refine goesL_ (some 73) rfl rfl Tryd.func15 (by kernel_rfl) rfl #[.int .i64 (wrap64 (x8_4 + 1)), .int .u64 a0] rfl (by (try simp only [List.map_toArray, List.map_cons, List.map_nil]); first | done | rfl | (simp only [List.length_drop, List.length_take]; rfl)) ?_; (with_reducible refine (ints_One.calls kj4 (wrap64 (x8_4 + 1)) a0 t298 t299 _ ?side1 A14.out).mono ?_); (case side1 => first | exact Globs.below HG.out HB.out | exact Globs.below HG.out (by repeat (first | (with_reducible first | exact HB.out | apply below_alloc | apply pw_below_drewN | apply below_drew1) | exact HB.out)) | (repeat (first | exact HG.out | (with_reducible refine Globs.alloc ?_ _) | (with_reducible refine Globs.drewN ?_ _) | (with_reducible refine Globs.drew ?_)))); rintro e w' ⟨rfl, ⟨nd, rfl⟩⟩; refine ⟨_, rfl, ?_⟩) | ((with_reducible refine gate_callee (f := 15) rfl ?_); refine goesL_ (some 80) rfl rfl Tryd.func15 (by kernel_rfl) rfl #[.int .i64 (wrap64 (x8_4 + 2)), .int .u64 a0] rfl (by (try simp only [List.map_toArray, List.map_cons, List.map_nil]); first | done | rfl | (simp only [List.length_drop, List.length_take]; rfl)) ?_; (with_reducible refine (ints_One.calls kj4 (wrap64 (x8_4 + 2)) a0 t300 t301 _ ?side1 A15.out).mono ?_); (case side1 => first | exact Globs.below HG.out HB.out | exact Globs.below HG.out (by repeat (first | (with_reducible first | exact HB.out | apply below_alloc | apply pw_below_drewN | apply below_drew1) | exact HB.out)) | (repeat (first | exact HG.out | (with_reducible refine Globs.alloc ?_ _) | (with_reducible refine Globs.drewN ?_ _) | (with_reducible refine Globs.drew ?_)))); rintro e w' ⟨rfl, ⟨nd, rfl⟩⟩; refine ⟨_, rfl, ?_⟩) | ((with_reducible refine gate_callee (f := 15) rfl ?_); refine goesL_ (some 85) rfl rfl Tryd.func15 (by kernel_rfl) rfl #[.int .i64 x8_4, .int .u64 0] rfl (by (try simp only [List.map_toArray, List.map_cons, List.map_nil]); first | done | rfl | (simp only [List.length_drop, List.length_take]; rfl)) ?_; (with_reducible refine (ints_One.calls kj4 x8_4 0 t302 t303 _ ?side1 A16.out).mono ?_); (case side1 => first | exact Globs.below HG.out HB.out | exact Globs.below HG.out (by repeat (first | (with_reducible first | exact HB.out | apply below_alloc | apply pw_below_drewN | apply below_drew1) | exact HB.out)) | (repeat (first | exact HG.out | (with_reducible refine Globs.alloc ?_ _) | (with_reducible refine Globs.drewN ?_ _) | (with_reducible refine Globs.drew ?_)))); rintro e w' ⟨rfl, ⟨nd, rfl⟩⟩; refine ⟨_, rfl, ?_⟩) | ((with_reducible refine gate_callee (f := 15) rfl ?_); refine goesL_ (some 91) rfl rfl Tryd.func15 (by kernel_rfl) rfl #[.int .i64 (wrap64 (x8_4 + 1)), .int .u64 0] rfl (by (try simp only [List.map_toArray, List.map_cons, List.map_nil]); first | done | rfl | (simp only [List.length_drop, List.length_take]; rfl)) ?_; (with_reducible refine (ints_One.calls kj4 (wrap64 (x8_4 + 1)) 0 t304 t305 _ ?side1 A17.out).mono ?_); (case side1 => first | exact Globs.below HG.out HB.out | exact Globs.below HG.out (by repeat (first | (with_reducible first | exact HB.out | apply below_alloc | apply pw_below_drewN | apply below_drew1) | exact HB.out)) | (repeat (first | exact HG.out | (with_reducible refine Globs.alloc ?_ _) | (with_reducible refine Globs.drewN ?_ _) | (with_reducible refine Globs.drew ?_)))); rintro e w' ⟨rfl, ⟨nd, rfl⟩⟩; refine ⟨_, rfl, ?_⟩))
                        go_ret
                        exact ⟨by first | rfl | (simp [errW_none, errW_some] <;> rfl) | (simp [*, errW_none, errW_some] <;> rfl), by repeat (first | (with_reducible first | exact HB.out | apply below_alloc | apply pw_below_drewN | apply below_drew1) | exact HB.out)⟩
                      · rw [if_neg c25] at H
                        have c25b0 : decide (0 < t300) = false := decide_eq_false c25
                        clear c25
                        by_cases c27 : t296 = x9_4
                        · rw [if_pos c27] at H
                          have c27b0 : (t296 == x9_4) = true := beq_iff_eq.mpr c27
                          have c27b1 : (t296 != x9_4) = false := bne_eq_false_iff_eq.mpr c27
                          clear c27
                          obtain rfl := Option.some.inj H
                          go_wp2_with (first | ((with_reducible refine gate_callee (f := 16) rfl ?_); refine goesL_ (some 39) rfl rfl Tryd.func16 (by kernel_rfl) rfl #[.int .i64 x10_4, .int .u64 1, .int .u64 (Int.tmod a1 x9_4)] rfl (by (try simp only [List.map_toArray, List.map_cons, List.map_nil]); first | done | rfl | (simp only [List.length_drop, List.length_take]; rfl)) ?_; (with_reducible refine (ints_Two.calls x10_4 1 (Int.tmod a1 x9_4) t287 t288 t289 _ A9.out).mono ?_); rintro e w28 ⟨rfl, hb⟩; refine ⟨_, rfl, ?_⟩; have n0_ := Aside0.mk (below_step (by repeat (first | (with_reducible first | exact HB.out | apply below_alloc | apply pw_below_drewN | apply below_drew1) | exact HB.out)) hb); clear HB; have HB := n0_; clear n0_; (try clear hb); (try clear hb2); (try clear hk); (try clear hi)) | ((with_reducible refine gate_callee (f := 15) rfl ?_); refine goesL_ (some 46) rfl rfl Tryd.func15 (by kernel_rfl) rfl #[.int .i64 x8_4, .int .u64 t287] rfl (by (try simp only [List.map_toArray, List.map_cons, List.map_nil]); first | done | rfl | (simp only [List.length_drop, List.length_take]; rfl)) ?_; (with_reducible refine (ints_One.calls kj4 x8_4 t287 t290 t291 _ ?side1 A10.out).mono ?_); (case side1 => first | exact Globs.below HG.out HB.out | exact Globs.below HG.out (by repeat (first | (with_reducible first | exact HB.out | apply below_alloc | apply pw_below_drewN | apply below_drew1) | exact HB.out)) | (repeat (first | exact HG.out | (with_reducible refine Globs.alloc ?_ _) | (with_reducible refine Globs.drewN ?_ _) | (with_reducible refine Globs.drew ?_)))); rintro e w' ⟨rfl, ⟨nd, rfl⟩⟩; refine ⟨_, rfl, ?_⟩) | ((with_reducible refine gate_callee (f := 15) rfl ?_); refine goesL_ (some 53) rfl rfl Tryd.func15 (by kernel_rfl) rfl #[.int .i64 (wrap64 (x8_4 + 1)), .int .u64 t287] rfl (by (try simp only [List.map_toArray, List.map_cons, List.map_nil]); first | done | rfl | (simp only [List.length_drop, List.length_take]; rfl)) ?_; (with_reducible refine (ints_One.calls kj4 (wrap64 (x8_4 + 1)) t287 t292 t293 _ ?side1 A11.out).mono ?_); (case side1 => first | exact Globs.below HG.out HB.out | exact Globs.below HG.out (by repeat (first | (with_reducible first | exact HB.out | apply below_alloc | apply pw_below_drewN | apply below_drew1) | exact HB.out)) | (repeat (first | exact HG.out | (with_reducible refine Globs.alloc ?_ _) | (with_reducible refine Globs.drewN ?_ _) | (with_reducible refine Globs.drew ?_)))); rintro e w' ⟨rfl, ⟨nd, rfl⟩⟩; refine ⟨_, rfl, ?_⟩) | ((with_reducible refine gate_callee (f := 15) rfl ?_); refine goesL_ (some 60) rfl rfl Tryd.func15 (by kernel_rfl) rfl #[.int .i64 (wrap64 (x8_4 + 2)), .int .u64 t287] rfl (by (try simp only [List.map_toArray, List.map_cons, List.map_nil]); first | done | rfl | (simp only [List.length_drop, List.length_take]; rfl)) ?_; (with_reducible refine (ints_One.calls kj4 (wrap64 (x8_4 + 2)) t287 t294 t295 _ ?side1 A12.out).mono ?_); (case side1 => first | exact Globs.below HG.out HB.out | exact Globs.below HG.out (by repeat (first | (with_reducible first | exact HB.out | apply below_alloc | apply pw_below_drewN | apply below_drew1) | exact HB.out)) | (repeat (first | exact HG.out | (with_reducible refine Globs.alloc ?_ _) | (with_reducible refine Globs.drewN ?_ _) | (with_reducible refine Globs.drew ?_)))); rintro e w' ⟨rfl, ⟨nd, rfl⟩⟩; refine ⟨_, rfl, ?_⟩) | ((with_reducible refine gate_callee (f := 15) rfl ?_); refine goesL_ (some 66) rfl rfl Tryd.func15 (by kernel_rfl) rfl #[.int .i64 x8_4, .int .u64 a0] rfl (by (try simp only [List.map_toArray, List.map_cons, List.map_nil]); first | done | rfl | (simp only [List.length_drop, List.length_take]; rfl)) ?_; (with_reducible refine (ints_One.calls kj4 x8_4 a0 t296 t297 _ ?side1 A13.out).mono ?_); (case side1 => first | exact Globs.below HG.out HB.out | exact Globs.below HG.out (by repeat (first | (with_reducible first | exact HB.out | apply below_alloc | apply pw_below_drewN | apply below_drew1) | exact HB.out)) | (repeat (first | exact HG.out | (with_reducible refine Globs.alloc ?_ _) | (with_reducible refine Globs.drewN ?_ _) | (with_reducible refine Globs.drew ?_)))); rintro e w' ⟨rfl, ⟨nd, rfl⟩⟩; refine ⟨_, rfl, ?_⟩) | ((with_reducible refine gate_callee (f := 15) rfl ?_); refine goesL_ (some 73) rfl rfl Tryd.func15 (by kernel_rfl) rfl #[.int .i64 (wrap64 (x8_4 + 1)), .int .u64 a0] rfl (by (try simp only [List.map_toArray, List.map_cons, List.map_nil]); first | done | rfl | (simp only [List.length_drop, List.length_take]; rfl)) ?_; (with_reducible refine (ints_One.calls kj4 (wrap64 (x8_4 + 1)) a0 t298 t299 _ ?side1 A14.out).mono ?_); (case side1 => first | exact Globs.below HG.out HB.out | exact Globs.below HG.out (by repeat (first | (with_reducible first | exact HB.out | apply below_alloc | apply pw_below_drewN | apply below_drew1) | exact HB.out)) | (repeat (first | exact HG.out | (with_reducible refine Globs.alloc ?_ _) | (with_reducible refine Globs.drewN ?_ _) | (with_reducible refine Globs.drew ?_)))); rintro e w' ⟨rfl, ⟨nd, rfl⟩⟩; refine ⟨_, rfl, ?_⟩) | ((with_reducible refine gate_callee (f := 15) rfl ?_); refine goesL_ (some 80) rfl rfl Tryd.func15 (by kernel_rfl) rfl #[.int .i64 (wrap64 (x8_4 + 2)), .int .u64 a0] rfl (by (try simp only [List.map_toArray, List.map_cons, List.map_nil]); first | done | rfl | (simp only [List.length_drop, List.length_take]; rfl)) ?_; (with_reducible refine (ints_One.calls kj4 (wrap64 (x8_4 + 2)) a0 t300 t301 _ ?side1 A15.out).mono ?_); (case side1 => first | exact Globs.below HG.out HB.out | exact Globs.below HG.out (by repeat (first | (with_reducible first | exact HB.out | apply below_alloc | apply pw_below_drewN | apply below_drew1) | exact HB.out)) | (repeat (first | exact HG.out | (with_reducible refine Globs.alloc ?_ _) | (with_reducible refine Globs.drewN ?_ _) | (with_reducible refine Globs.drew ?_)))); rintro e w' ⟨rfl, ⟨nd, rfl⟩⟩; refine ⟨_, rfl, ?_⟩) | ((with_reducible refine gate_callee (f := 15) rfl ?_); refine goesL_ (some 85) rfl rfl Tryd.func15 (by kernel_rfl) rfl #[.int .i64 x8_4, .int .u64 0] rfl (by (try simp only [List.map_toArray, List.map_cons, List.map_nil]); first | done | rfl | (simp only [List.length_drop, List.length_take]; rfl)) ?_; (with_reducible refine (ints_One.calls kj4 x8_4 0 t302 t303 _ ?side1 A16.out).mono ?_); (case side1 => first | exact Globs.below HG.out HB.out | exact Globs.below HG.out (by repeat (first | (with_reducible first | exact HB.out | apply below_alloc | apply pw_below_drewN | apply below_drew1) | exact HB.out)) | (repeat (first | exact HG.out | (with_reducible refine Globs.alloc ?_ _) | (with_reducible refine Globs.drewN ?_ _) | (with_reducible refine Globs.drew ?_)))); rintro e w' ⟨rfl, ⟨nd, rfl⟩⟩; refine ⟨_, rfl, ?_⟩) | ((with_reducible refine gate_callee (f := 15) rfl ?_); refine goesL_ (some 91) rfl rfl Tryd.func15 (by kernel_rfl) rfl #[.int .i64 (wrap64 (x8_4 + 1)), .int .u64 0] rfl (by (try simp only [List.map_toArray, List.map_cons, List.map_nil]); first | done | rfl | (simp only [List.length_drop, List.length_take]; rfl)) ?_; (with_reducible refine (ints_One.calls kj4 (wrap64 (x8_4 + 1)) 0 t304 t305 _ ?side1 A17.out).mono ?_); (case side1 => first | exact Globs.below HG.out HB.out | exact Globs.below HG.out (by repeat (first | (with_reducible first | exact HB.out | apply below_alloc | apply pw_below_drewN | apply below_drew1) | exact HB.out)) | (repeat (first | exact HG.out | (with_reducible refine Globs.alloc ?_ _) | (with_reducible refine Globs.drewN ?_ _) | (with_reducible refine Globs.drew ?_)))); rintro e w' ⟨rfl, ⟨nd, rfl⟩⟩; refine ⟨_, rfl, ?_⟩))
                          go_ret
                          exact ⟨by first | rfl | (simp [errW_none, errW_some] <;> rfl) | (simp [*, errW_none, errW_some] <;> rfl), by repeat (first | (with_reducible first | exact HB.out | apply below_alloc | apply pw_below_drewN | apply below_drew1) | exact HB.out)⟩
                        · rw [if_neg c27] at H
                          have c27b0 : (t296 == x9_4) = false := beq_eq_false_iff_ne.mpr c27
                          have c27b1 : (t296 != x9_4) = true := bne_iff_ne.mpr c27
                          exact absurd ((Option.some.inj H).trans HRT_.out) (by decide)
                    · rw [if_neg c24] at H
                      have c24b0 : (t300 == 0) = false := beq_eq_false_iff_ne.mpr c24
                      have c24b1 : (t300 != 0) = true := bne_iff_ne.mpr c24
                      by_cases c29 : (IntKind.u64.wrap ((IntKind.u64.wrap (t296 + t298)) + t300)) ≤ x9_4
                      · rw [if_pos c29] at H
                        have c29b0 : decide ((IntKind.u64.wrap ((IntKind.u64.wrap (t296 + t298)) + t300)) ≤ x9_4) = true := decide_eq_true c29
                        clear c29
                        by_cases c30 : t300 > 0
                        · rw [if_pos c30] at H
                          have c30b0 : decide (0 < t300) = true := decide_eq_true c30
                          clear c30
                          obtain rfl := Option.some.inj H
                          go_wp2_with (first | ((with_reducible refine gate_callee (f := 16) rfl ?_); refine goesL_ (some 39) rfl rfl Tryd.func16 (by kernel_rfl) rfl #[.int .i64 x10_4, .int .u64 1, .int .u64 (Int.tmod a1 x9_4)] rfl (by (try simp only [List.map_toArray, List.map_cons, List.map_nil]); first | done | rfl | (simp only [List.length_drop, List.length_take]; rfl)) ?_; (with_reducible refine (ints_Two.calls x10_4 1 (Int.tmod a1 x9_4) t287 t288 t289 _ A9.out).mono ?_); rintro e w31 ⟨rfl, hb⟩; refine ⟨_, rfl, ?_⟩; have n0_ := Aside0.mk (below_step (by repeat (first | (with_reducible first | exact HB.out | apply below_alloc | apply pw_below_drewN | apply below_drew1) | exact HB.out)) hb); clear HB; have HB := n0_; clear n0_; (try clear hb); (try clear hb2); (try clear hk); (try clear hi)) | ((with_reducible refine gate_callee (f := 15) rfl ?_); refine goesL_ (some 46) rfl rfl Tryd.func15 (by kernel_rfl) rfl #[.int .i64 x8_4, .int .u64 t287] rfl (by (try simp only [List.map_toArray, List.map_cons, List.map_nil]); first | done | rfl | (simp only [List.length_drop, List.length_take]; rfl)) ?_; (with_reducible refine (ints_One.calls kj4 x8_4 t287 t290 t291 _ ?side1 A10.out).mono ?_); (case side1 => first | exact Globs.below HG.out HB.out | exact Globs.below HG.out (by repeat (first | (with_reducible first | exact HB.out | apply below_alloc | apply pw_below_drewN | apply below_drew1) | exact HB.out)) | (repeat (first | exact HG.out | (with_reducible refine Globs.alloc ?_ _) | (with_reducible refine Globs.drewN ?_ _) | (with_reducible refine Globs.drew ?_)))); rintro e w' ⟨rfl, ⟨nd, rfl⟩⟩; refine ⟨_, rfl, ?_⟩) | ((with_reducible refine gate_callee (f := 15) rfl ?_); refine goesL_ (some 53) rfl rfl Tryd.func15 (by kernel_rfl) rfl #[.int .i64 (wrap64 (x8_4 + 1)), .int .u64 t287] rfl (by (try simp only [List.map_toArray, List.map_cons, List.map_nil]); first | done | rfl | (simp only [List.length_drop, List.length_take]; rfl)) ?_; (with_reducible refine (ints_One.calls kj4 (wrap64 (x8_4 + 1)) t287 t292 t293 _ ?side1 A11.out).mono ?_); (case side1 => first | exact Globs.below HG.out HB.out | exact Globs.below HG.out (by repeat (first | (with_reducible first | exact HB.out | apply below_alloc | apply pw_below_drewN | apply below_drew1) | exact HB.out)) | (repeat (first | exact HG.out | (with_reducible refine Globs.alloc ?_ _) | (with_reducible refine Globs.drewN ?_ _) | (with_reducible refine Globs.drew ?_)))); rintro e w' ⟨rfl, ⟨nd, rfl⟩⟩; refine ⟨_, rfl, ?_⟩) | ((with_reducible refine gate_callee (f := 15) rfl ?_); refine goesL_ (some 60) rfl rfl Tryd.func15 (by kernel_rfl) rfl #[.int .i64 (wrap64 (x8_4 + 2)), .int .u64 t287] rfl (by (try simp only [List.map_toArray, List.map_cons, List.map_nil]); first | done | rfl | (simp only [List.length_drop, List.length_take]; rfl)) ?_; (with_reducible refine (ints_One.calls kj4 (wrap64 (x8_4 + 2)) t287 t294 t295 _ ?side1 A12.out).mono ?_); (case side1 => first | exact Globs.below HG.out HB.out | exact Globs.below HG.out (by repeat (first | (with_reducible first | exact HB.out | apply below_alloc | apply pw_below_drewN | apply below_drew1) | exact HB.out)) | (repeat (first | exact HG.out | (with_reducible refine Globs.alloc ?_ _) | (with_reducible refine Globs.drewN ?_ _) | (with_reducible refine Globs.drew ?_)))); rintro e w' ⟨rfl, ⟨nd, rfl⟩⟩; refine ⟨_, rfl, ?_⟩) | ((with_reducible refine gate_callee (f := 15) rfl ?_); refine goesL_ (some 66) rfl rfl Tryd.func15 (by kernel_rfl) rfl #[.int .i64 x8_4, .int .u64 a0] rfl (by (try simp only [List.map_toArray, List.map_cons, List.map_nil]); first | done | rfl | (simp only [List.length_drop, List.length_take]; rfl)) ?_; (with_reducible refine (ints_One.calls kj4 x8_4 a0 t296 t297 _ ?side1 A13.out).mono ?_); (case side1 => first | exact Globs.below HG.out HB.out | exact Globs.below HG.out (by repeat (first | (with_reducible first | exact HB.out | apply below_alloc | apply pw_below_drewN | apply below_drew1) | exact HB.out)) | (repeat (first | exact HG.out | (with_reducible refine Globs.alloc ?_ _) | (with_reducible refine Globs.drewN ?_ _) | (with_reducible refine Globs.drew ?_)))); rintro e w' ⟨rfl, ⟨nd, rfl⟩⟩; refine ⟨_, rfl, ?_⟩) | ((with_reducible refine gate_callee (f := 15) rfl ?_); refine goesL_ (some 73) rfl rfl Tryd.func15 (by kernel_rfl) rfl #[.int .i64 (wrap64 (x8_4 + 1)), .int .u64 a0] rfl (by (try simp only [List.map_toArray, List.map_cons, List.map_nil]); first | done | rfl | (simp only [List.length_drop, List.length_take]; rfl)) ?_; (with_reducible refine (ints_One.calls kj4 (wrap64 (x8_4 + 1)) a0 t298 t299 _ ?side1 A14.out).mono ?_); (case side1 => first | exact Globs.below HG.out HB.out | exact Globs.below HG.out (by repeat (first | (with_reducible first | exact HB.out | apply below_alloc | apply pw_below_drewN | apply below_drew1) | exact HB.out)) | (repeat (first | exact HG.out | (with_reducible refine Globs.alloc ?_ _) | (with_reducible refine Globs.drewN ?_ _) | (with_reducible refine Globs.drew ?_)))); rintro e w' ⟨rfl, ⟨nd, rfl⟩⟩; refine ⟨_, rfl, ?_⟩) | ((with_reducible refine gate_callee (f := 15) rfl ?_); refine goesL_ (some 80) rfl rfl Tryd.func15 (by kernel_rfl) rfl #[.int .i64 (wrap64 (x8_4 + 2)), .int .u64 a0] rfl (by (try simp only [List.map_toArray, List.map_cons, List.map_nil]); first | done | rfl | (simp only [List.length_drop, List.length_take]; rfl)) ?_; (with_reducible refine (ints_One.calls kj4 (wrap64 (x8_4 + 2)) a0 t300 t301 _ ?side1 A15.out).mono ?_); (case side1 => first | exact Globs.below HG.out HB.out | exact Globs.below HG.out (by repeat (first | (with_reducible first | exact HB.out | apply below_alloc | apply pw_below_drewN | apply below_drew1) | exact HB.out)) | (repeat (first | exact HG.out | (with_reducible refine Globs.alloc ?_ _) | (with_reducible refine Globs.drewN ?_ _) | (with_reducible refine Globs.drew ?_)))); rintro e w' ⟨rfl, ⟨nd, rfl⟩⟩; refine ⟨_, rfl, ?_⟩) | ((with_reducible refine gate_callee (f := 15) rfl ?_); refine goesL_ (some 85) rfl rfl Tryd.func15 (by kernel_rfl) rfl #[.int .i64 x8_4, .int .u64 0] rfl (by (try simp only [List.map_toArray, List.map_cons, List.map_nil]); first | done | rfl | (simp only [List.length_drop, List.length_take]; rfl)) ?_; (with_reducible refine (ints_One.calls kj4 x8_4 0 t302 t303 _ ?side1 A16.out).mono ?_); (case side1 => first | exact Globs.below HG.out HB.out | exact Globs.below HG.out (by repeat (first | (with_reducible first | exact HB.out | apply below_alloc | apply pw_below_drewN | apply below_drew1) | exact HB.out)) | (repeat (first | exact HG.out | (with_reducible refine Globs.alloc ?_ _) | (with_reducible refine Globs.drewN ?_ _) | (with_reducible refine Globs.drew ?_)))); rintro e w' ⟨rfl, ⟨nd, rfl⟩⟩; refine ⟨_, rfl, ?_⟩) | ((with_reducible refine gate_callee (f := 15) rfl ?_); refine goesL_ (some 91) rfl rfl Tryd.func15 (by kernel_rfl) rfl #[.int .i64 (wrap64 (x8_4 + 1)), .int .u64 0] rfl (by (try simp only [List.map_toArray, List.map_cons, List.map_nil]); first | done | rfl | (simp only [List.length_drop, List.length_take]; rfl)) ?_; (with_reducible refine (ints_One.calls kj4 (wrap64 (x8_4 + 1)) 0 t304 t305 _ ?side1 A17.out).mono ?_); (case side1 => first | exact Globs.below HG.out HB.out | exact Globs.below HG.out (by repeat (first | (with_reducible first | exact HB.out | apply below_alloc | apply pw_below_drewN | apply below_drew1) | exact HB.out)) | (repeat (first | exact HG.out | (with_reducible refine Globs.alloc ?_ _) | (with_reducible refine Globs.drewN ?_ _) | (with_reducible refine Globs.drew ?_)))); rintro e w' ⟨rfl, ⟨nd, rfl⟩⟩; refine ⟨_, rfl, ?_⟩))
                          go_ret
                          exact ⟨by first | rfl | (simp [errW_none, errW_some] <;> rfl) | (simp [*, errW_none, errW_some] <;> rfl), by repeat (first | (with_reducible first | exact HB.out | apply below_alloc | apply pw_below_drewN | apply below_drew1) | exact HB.out)⟩
                        · rw [if_neg c30] at H
                          have c30b0 : decide (0 < t300) = false := decide_eq_false c30
                          clear c30
                          by_cases c32 : t296 = x9_4
                          · rw [if_pos c32] at H
                            have c32b0 : (t296 == x9_4) = true := beq_iff_eq.mpr c32
                            have c32b1 : (t296 != x9_4) = false := bne_eq_false_iff_eq.mpr c32
                            clear c32
                            obtain rfl := Option.some.inj H
                            go_wp2_with (first | ((with_reducible refine gate_callee (f := 16) rfl ?_); refine goesL_ (some 39) rfl rfl Tryd.func16 (by kernel_rfl) rfl #[.int .i64 x10_4, .int .u64 1, .int .u64 (Int.tmod a1 x9_4)] rfl (by (try simp only [List.map_toArray, List.map_cons, List.map_nil]); first | done | rfl | (simp only [List.length_drop, List.length_take]; rfl)) ?_; (with_reducible refine (ints_Two.calls x10_4 1 (Int.tmod a1 x9_4) t287 t288 t289 _ A9.out).mono ?_); rintro e w33 ⟨rfl, hb⟩; refine ⟨_, rfl, ?_⟩; have n0_ := Aside0.mk (below_step (by repeat (first | (with_reducible first | exact HB.out | apply below_alloc | apply pw_below_drewN | apply below_drew1) | exact HB.out)) hb); clear HB; have HB := n0_; clear n0_; (try clear hb); (try clear hb2); (try clear hk); (try clear hi)) | ((with_reducible refine gate_callee (f := 15) rfl ?_); refine goesL_ (some 46) rfl rfl Tryd.func15 (by kernel_rfl) rfl #[.int .i64 x8_4, .int .u64 t287] rfl (by (try simp only [List.map_toArray, List.map_cons, List.map_nil]); first | done | rfl | (simp only [List.length_drop, List.length_take]; rfl)) ?_; (with_reducible refine (ints_One.calls kj4 x8_4 t287 t290 t291 _ ?side1 A10.out).mono ?_); (case side1 => first | exact Globs.below HG.out HB.out | exact Globs.below HG.out (by repeat (first | (with_reducible first | exact HB.out | apply below_alloc | apply pw_below_drewN | apply below_drew1) | exact HB.out)) | (repeat (first | exact HG.out | (with_reducible refine Globs.alloc ?_ _) | (with_reducible refine Globs.drewN ?_ _) | (with_reducible refine Globs.drew ?_)))); rintro e w' ⟨rfl, ⟨nd, rfl⟩⟩; refine ⟨_, rfl, ?_⟩) | ((with_reducible refine gate_callee (f := 15) rfl ?_); refine goesL_ (some 53) rfl rfl Tryd.func15 (by kernel_rfl) rfl #[.int .i64 (wrap64 (x8_4 + 1)), .int .u64 t287] rfl (by (try simp only [List.map_toArray, List.map_cons, List.map_nil]); first | done | rfl | (simp only [List.length_drop, List.length_take]; rfl)) ?_; (with_reducible refine (ints_One.calls kj4 (wrap64 (x8_4 + 1)) t287 t292 t293 _ ?side1 A11.out).mono ?_); (case side1 => first | exact Globs.below HG.out HB.out | exact Globs.below HG.out (by repeat (first | (with_reducible first | exact HB.out | apply below_alloc | apply pw_below_drewN | apply below_drew1) | exact HB.out)) | (repeat (first | exact HG.out | (with_reducible refine Globs.alloc ?_ _) | (with_reducible refine Globs.drewN ?_ _) | (with_reducible refine Globs.drew ?_)))); rintro e w' ⟨rfl, ⟨nd, rfl⟩⟩; refine ⟨_, rfl, ?_⟩) | ((with_reducible refine gate_callee (f := 15) rfl ?_); refine goesL_ (some 60) rfl rfl Tryd.func15 (by kernel_rfl) rfl #[.int .i64 (wrap64 (x8_4 + 2)), .int .u64 t287] rfl (by (try simp only [List.map_toArray, List.map_cons, List.map_nil]); first | done | rfl | (simp only [List.length_drop, List.length_take]; rfl)) ?_; (with_reducible refine (ints_One.calls kj4 (wrap64 (x8_4 + 2)) t287 t294 t295 _ ?side1 A12.out).mono ?_); (case side1 => first | exact Globs.below HG.out HB.out | exact Globs.below HG.out (by repeat (first | (with_reducible first | exact HB.out | apply below_alloc | apply pw_below_drewN | apply below_drew1) | exact HB.out)) | (repeat (first | exact HG.out | (with_reducible refine Globs.alloc ?_ _) | (with_reducible refine Globs.drewN ?_ _) | (with_reducible refine Globs.drew ?_)))); rintro e w' ⟨rfl, ⟨nd, rfl⟩⟩; refine ⟨_, rfl, ?_⟩) | ((with_reducible refine gate_callee (f := 15) rfl ?_); refine goesL_ (some 66) rfl rfl Tryd.func15 (by kernel_rfl) rfl #[.int .i64 x8_4, .int .u64 a0] rfl (by (try simp only [List.map_toArray, List.map_cons, List.map_nil]); first | done | rfl | (simp only [List.length_drop, List.length_take]; rfl)) ?_; (with_reducible refine (ints_One.calls kj4 x8_4 a0 t296 t297 _ ?side1 A13.out).mono ?_); (case side1 => first | exact Globs.below HG.out HB.out | exact Globs.below HG.out (by repeat (first | (with_reducible first | exact HB.out | apply below_alloc | apply pw_below_drewN | apply below_drew1) | exact HB.out)) | (repeat (first | exact HG.out | (with_reducible refine Globs.alloc ?_ _) | (with_reducible refine Globs.drewN ?_ _) | (with_reducible refine Globs.drew ?_)))); rintro e w' ⟨rfl, ⟨nd, rfl⟩⟩; refine ⟨_, rfl, ?_⟩) | ((with_reducible refine gate_callee (f := 15) rfl ?_); refine goesL_ (some 73) rfl rfl Tryd.func15 (by kernel_rfl) rfl #[.int .i64 (wrap64 (x8_4 + 1)), .int .u64 a0] rfl (by (try simp only [List.map_toArray, List.map_cons, List.map_nil]); first | done | rfl | (simp only [List.length_drop, List.length_take]; rfl)) ?_; (with_reducible refine (ints_One.calls kj4 (wrap64 (x8_4 + 1)) a0 t298 t299 _ ?side1 A14.out).mono ?_); (case side1 => first | exact Globs.below HG.out HB.out | exact Globs.below HG.out (by repeat (first | (with_reducible first | exact HB.out | apply below_alloc | apply pw_below_drewN | apply below_drew1) | exact HB.out)) | (repeat (first | exact HG.out | (with_reducible refine Globs.alloc ?_ _) | (with_reducible refine Globs.drewN ?_ _) | (with_reducible refine Globs.drew ?_)))); rintro e w' ⟨rfl, ⟨nd, rfl⟩⟩; refine ⟨_, rfl, ?_⟩) | ((with_reducible refine gate_callee (f := 15) rfl ?_); refine goesL_ (some 80) rfl rfl Tryd.func15 (by kernel_rfl) rfl #[.int .i64 (wrap64 (x8_4 + 2)), .int .u64 a0] rfl (by (try simp only [List.map_toArray, List.map_cons, List.map_nil]); first | done | rfl | (simp only [List.length_drop, List.length_take]; rfl)) ?_; (with_reducible refine (ints_One.calls kj4 (wrap64 (x8_4 + 2)) a0 t300 t301 _ ?side1 A15.out).mono ?_); (case side1 => first | exact Globs.below HG.out HB.out | exact Globs.below HG.out (by repeat (first | (with_reducible first | exact HB.out | apply below_alloc | apply pw_below_drewN | apply below_drew1) | exact HB.out)) | (repeat (first | exact HG.out | (with_reducible refine Globs.alloc ?_ _) | (with_reducible refine Globs.drewN ?_ _) | (with_reducible refine Globs.drew ?_)))); rintro e w' ⟨rfl, ⟨nd, rfl⟩⟩; refine ⟨_, rfl, ?_⟩) | ((with_reducible refine gate_callee (f := 15) rfl ?_); refine goesL_ (some 85) rfl rfl Tryd.func15 (by kernel_rfl) rfl #[.int .i64 x8_4, .int .u64 0] rfl (by (try simp only [List.map_toArray, List.map_cons, List.map_nil]); first | done | rfl | (simp only [List.length_drop, List.length_take]; rfl)) ?_; (with_reducible refine (ints_One.calls kj4 x8_4 0 t302 t303 _ ?side1 A16.out).mono ?_); (case side1 => first | exact Globs.below HG.out HB.out | exact Globs.below HG.out (by repeat (first | (with_reducible first | exact HB.out | apply below_alloc | apply pw_below_drewN | apply below_drew1) | exact HB.out)) | (repeat (first | exact HG.out | (with_reducible refine Globs.alloc ?_ _) | (with_reducible refine Globs.drewN ?_ _) | (with_reducible refine Globs.drew ?_)))); rintro e w' ⟨rfl, ⟨nd, rfl⟩⟩; refine ⟨_, rfl, ?_⟩) | ((with_reducible refine gate_callee (f := 15) rfl ?_); refine goesL_ (some 91) rfl rfl Tryd.func15 (by kernel_rfl) rfl #[.int .i64 (wrap64 (x8_4 + 1)), .int .u64 0] rfl (by (try simp only [List.map_toArray, List.map_cons, List.map_nil]); first | done | rfl | (simp only [List.length_drop, List.length_take]; rfl)) ?_; (with_reducible refine (ints_One.calls kj4 (wrap64 (x8_4 + 1)) 0 t304 t305 _ ?side1 A17.out).mono ?_); (case side1 => first | exact Globs.below HG.out HB.out | exact Globs.below HG.out (by repeat (first | (with_reducible first | exact HB.out | apply below_alloc | apply pw_below_drewN | apply below_drew1) | exact HB.out)) | (repeat (first | exact HG.out | (with_reducible refine Globs.alloc ?_ _) | (with_reducible refine Globs.drewN ?_ _) | (with_reducible refine Globs.drew ?_)))); rintro e w' ⟨rfl, ⟨nd, rfl⟩⟩; refine ⟨_, rfl, ?_⟩))
                            go_ret
                            exact ⟨by first | rfl | (simp [errW_none, errW_some] <;> rfl) | (simp [*, errW_none, errW_some] <;> rfl), by repeat (first | (with_reducible first | exact HB.out | apply below_alloc | apply pw_below_drewN | apply below_drew1) | exact HB.out)⟩
                          · rw [if_neg c32] at H
                            have c32b0 : (t296 == x9_4) = false := beq_eq_false_iff_ne.mpr c32
                            have c32b1 : (t296 != x9_4) = true := bne_iff_ne.mpr c32
                            exact absurd ((Option.some.inj H).trans HRT_.out) (by decide)
                      · rw [if_neg c29] at H
                        have c29b0 : decide ((IntKind.u64.wrap ((IntKind.u64.wrap (t296 + t298)) + t300)) ≤ x9_4) = false := decide_eq_false c29
                        clear c29
                        exact absurd ((Option.some.inj H).trans HRT_.out) (by decide)
                  · rw [if_neg c23] at H
                    have c23b0 : (t304 == x9_4) = false := beq_eq_false_iff_ne.mpr c23
                    have c23b1 : (t304 != x9_4) = true := bne_iff_ne.mpr c23
                    exact absurd ((Option.some.inj H).trans HRT_.out) (by decide)
                · rw [if_neg c22] at H
                  have c22b0 : (t302 == x9_4) = false := beq_eq_false_iff_ne.mpr c22
                  have c22b1 : (t302 != x9_4) = true := bne_iff_ne.mpr c22
                  exact absurd ((Option.some.inj H).trans HRT_.out) (by decide)
              · rw [if_neg c21] at H
                have c21b0 : (t294 == 1) = false := beq_eq_false_iff_ne.mpr c21
                have c21b1 : (t294 != 1) = true := bne_iff_ne.mpr c21
                exact absurd ((Option.some.inj H).trans HRT_.out) (by decide)
            · rw [if_neg c20] at H
              have c20b0 : (t292 == (Int.tmod a1 x9_4)) = false := beq_eq_false_iff_ne.mpr c20
              have c20b1 : (t292 != (Int.tmod a1 x9_4)) = true := bne_iff_ne.mpr c20
              exact absurd ((Option.some.inj H).trans HRT_.out) (by decide)
          · rw [if_neg c19] at H
            have c19b0 : (t290 == (IntKind.u64.wrap ((IntKind.u64.wrap (x9_4 - 1)) - (Int.tmod a1 x9_4)))) = false := beq_eq_false_iff_ne.mpr c19
            have c19b1 : (t290 != (IntKind.u64.wrap ((IntKind.u64.wrap (x9_4 - 1)) - (Int.tmod a1 x9_4)))) = true := bne_iff_ne.mpr c19
            exact absurd ((Option.some.inj H).trans HRT_.out) (by decide)
        · replace c18 := Bool.eq_false_iff.mpr c18
          subst c18
          have H1 : (some false) = some r := by rw [if_neg (show ¬ (false = true) by decide)] at H; exact H
          clear H
          have H := H1
          clear H1
          exact absurd ((Option.some.inj H).trans HRT_.out) (by decide)

/-- THE ONE PURE STATEMENT of avocetlaw02_IntsCount: yours. -/
def avocetlaw02_IntsCount.Pure : Prop := ∀ (a0 : Int) (a1 : Int) (a2 : Bool), (Lit.int .u64 a0).wf = true → (Lit.int .u64 a1).wf = true → ∃ k, avocetlaw02_IntsCount.f k a0 a1 a2 = some true
theorem avocetlaw02_IntsCount.walk (P : avocetlaw02_IntsCount.Pure) (a0 : Int) (a1 : Int) (a2 : Bool) (w : World) (hG : Globs w) (w0 : (Lit.int .u64 a0).wf = true) (w1 : (Lit.int .u64 a1).wf = true) :
    Calls Tryd.prog 8 #[.int .u64 a0, .int .u64 a1, .bool a2] w fun e w' => e = .returned (.bool true) ∧ Below w.heap.size w w' := by
  obtain ⟨k, h⟩ := P a0 a1 a2 w0 w1
  refine (avocetlaw02_IntsCount.calls k a0 a1 a2 true w hG rfl h).mono ?_
  rintro e w' ⟨rfl, hd⟩
  exact ⟨rfl, hd⟩

/-! ### ints_Value: function 20 -/
def ints_Value.f (a0 : Int) (a1 : Int) : Option (Int) := if a0 = 127 then (some ((a1) % 4294967296)) else (some (IntKind.u64.wrap (a1)))
set_option maxHeartbeats 8000000 in
set_option maxRecDepth 100000 in
theorem ints_Value.calls (a0 : Int) (a1 : Int) (r : Int) (w : World) (h : ints_Value.f a0 a1 = some r) :
    Calls Tryd.prog 20 #[.int .u8 a0, .int .i64 a1] w fun e w' => e = .returned (.int .u64 r) ∧ Drawn0 w w' := by
  have H : (if a0 = 127 then (some ((a1) % 4294967296)) else (some (IntKind.u64.wrap (a1)))) = some r := h
  clear h
  by_cases c3 : a0 = 127
  · rw [if_pos c3] at H
    have c3b0 : (a0 == 127) = true := beq_iff_eq.mpr c3
    have c3b1 : (a0 != 127) = false := bne_eq_false_iff_eq.mpr c3
    clear c3
    obtain rfl := Option.some.inj H
    go_enter Tryd.func20, Tryd.ntmps20
    go_wp2
    go_ret
    exact ⟨by first | rfl | (simp; done) | (simp [*]; done), by repeat (first | exact Drawn0.refl _ | apply Drawn0.step)⟩
  · rw [if_neg c3] at H
    have c3b0 : (a0 == 127) = false := beq_eq_false_iff_ne.mpr c3
    have c3b1 : (a0 != 127) = true := bne_iff_ne.mpr c3
    obtain rfl := Option.some.inj H
    go_enter Tryd.func20, Tryd.ntmps20
    go_wp2
    go_ret
    exact ⟨by first | rfl | (simp; done) | (simp [*]; done), by repeat (first | exact Drawn0.refl _ | apply Drawn0.step)⟩

/-! ### ints_Signed: function 21 -/
def ints_Signed.f (a0 : Int) (a1 : Int) : Option (Int) := if a0 = 127 then (some (wrap64 (wrap32 (a1)))) else (some (wrap64 (a1)))
set_option maxHeartbeats 8000000 in
set_option maxRecDepth 100000 in
theorem ints_Signed.calls (a0 : Int) (a1 : Int) (r : Int) (w : World) (h : ints_Signed.f a0 a1 = some r) :
    Calls Tryd.prog 21 #[.int .u8 a0, .int .u64 a1] w fun e w' => e = .returned (.int .i64 r) ∧ Drawn0 w w' := by
  have H : (if a0 = 127 then (some (wrap64 (wrap32 (a1)))) else (some (wrap64 (a1)))) = some r := h
  clear h
  by_cases c3 : a0 = 127
  · rw [if_pos c3] at H
    have c3b0 : (a0 == 127) = true := beq_iff_eq.mpr c3
    have c3b1 : (a0 != 127) = false := bne_eq_false_iff_eq.mpr c3
    clear c3
    obtain rfl := Option.some.inj H
    go_enter Tryd.func21, Tryd.ntmps21
    go_wp2
    go_ret
    exact ⟨by first | rfl | (simp; done) | (simp [*]; done), by repeat (first | exact Drawn0.refl _ | apply Drawn0.step)⟩
  · rw [if_neg c3] at H
    have c3b0 : (a0 == 127) = false := beq_eq_false_iff_ne.mpr c3
    have c3b1 : (a0 != 127) = true := bne_iff_ne.mpr c3
    obtain rfl := Option.some.inj H
    go_enter Tryd.func21, Tryd.ntmps21
    go_wp2
    go_ret
    exact ⟨by first | rfl | (simp; done) | (simp [*]; done), by repeat (first | exact Drawn0.refl _ | apply Drawn0.step)⟩

end Go.Proofs.YtjonlcnmpejamaaDoor.G
