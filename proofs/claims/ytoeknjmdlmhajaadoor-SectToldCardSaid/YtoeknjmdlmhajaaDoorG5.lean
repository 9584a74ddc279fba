-- Made by gprint.py (mine) over the kit's print.py, out of the translation; parts of it typed by hand.
import Derived.Test.YtoeknjmdlmhajaaDoorG0
import Derived.Test.YtoeknjmdlmhajaaDoorG2
import Derived.Test.YtoeknjmdlmhajaaDoorG3
import Derived.Test.YtoeknjmdlmhajaaDoorG4
namespace Go.Proofs.YtoeknjmdlmhajaaDoor.G
open Go.RowKit Go.Proofs.YtoeknjmdlmhajaaDoorW.PrintWords Go.Proofs.YtoeknjmdlmhajaaDoorW.PrintLast Go.Proofs.YtoeknjmdlmhajaaDoorW.PrintMore
attribute [local go_sem] max2_int min2_int max_two min_two max_three min_three max_four min_four   -- for this text's walks alone
set_option linter.unusedVariables false
set_option linter.unusedSimpArgs false

/-! ### avocetlaw07_SectFinds: function 7 -/
def avocetlaw07_SectFinds.l0 : Nat → List (S36) → Int → Bool → List Int → Bool → Int → Option (Bool)
  | 0, _, _, _, _, _, _ => none
  | k + 1, x0, x1, x5, x6, x7, x8 => if x8 < (x0.length : Int) then (if 0 ≤ x8 then (if ((rd_T36 x0 x8).f0) = x1 then (if x5 = true then (if x7 = true then (some ((strOfNums x6).toList == (strOfNums ((rd_T36 x0 x8).f1)).toList)) else (some false)) else (some false)) else (avocetlaw07_SectFinds.l0 k x0 x1 x5 x6 x7 (wrap64 (x8 + 1)))) else (none)) else (if x5 = true then (if x7 = true then (some false) else (some ((x6.length : Int) == 0))) else (some false))
def avocetlaw07_SectFinds.f (k : Nat) (l0 : List (S36)) (a1 : Int) : Option (Bool) := (avocetlaw07_awake.f k).bind fun t234 => ((avocetref07_Few.f k l0).bind fun t235 => (if t235 = true then ((avocetlaw07_ours.f k l0).bind fun t236 => ((sect_Find.f t236 a1).bind fun bt239 => (avocetlaw07_SectFinds.l0 k l0 a1 t234 bt239.1 bt239.2 0))) else (some t234)))
theorem avocetlaw07_SectFinds.mono_l : ∀ k, (∀ y0 y1 y2 y3 y4 y5, LeO (avocetlaw07_SectFinds.l0 k y0 y1 y2 y3 y4 y5) (avocetlaw07_SectFinds.l0 (k + 1) y0 y1 y2 y3 y4 y5))
  | 0 => fun _ _ _ _ _ _ r h => by simp [avocetlaw07_SectFinds.l0] at h
  | k + 1 => by
    have ih0 := avocetlaw07_SectFinds.mono_l k
    · intro y0 y1 y2 y3 y4 y5
      unfold avocetlaw07_SectFinds.l0
      repeat' first
      | (with_reducible exact ih0 _ _ _ _ _ _)
      | (with_reducible exact avocetlaw07_awake.mono _)
      | (with_reducible exact avocetlaw07_ours.mono _ _)
      | (with_reducible exact avocetref07_Few.mono _ _)
      | (with_reducible exact LeO.refl _)
      | (with_reducible exact LeO.none _)
      | (with_reducible refine LeO.ite ?_ ?_)
      | (with_reducible refine LeO.bind ?_ (fun _ => ?_))
      | exact ih0 _ _ _ _ _ _
      | exact avocetlaw07_awake.mono _
      | exact avocetlaw07_ours.mono _ _
      | exact avocetref07_Few.mono _ _
      | exact LeO.none _
      | refine LeO.ite ?_ ?_
      | refine LeO.bind ?_ (fun _ => ?_)
theorem avocetlaw07_SectFinds.mono : ∀ a0 a1 k, LeO (avocetlaw07_SectFinds.f k a0 a1) (avocetlaw07_SectFinds.f (k + 1) a0 a1) := by
  intro a0 a1 k
  have ih0 := avocetlaw07_SectFinds.mono_l k
  unfold avocetlaw07_SectFinds.f
  repeat' first
      | (with_reducible exact ih0 _ _ _ _ _ _)
      | (with_reducible exact avocetlaw07_awake.mono _)
      | (with_reducible exact avocetlaw07_ours.mono _ _)
      | (with_reducible exact avocetref07_Few.mono _ _)
      | (with_reducible exact LeO.refl _)
      | (with_reducible exact LeO.none _)
      | (with_reducible refine LeO.ite ?_ ?_)
      | (with_reducible refine LeO.bind ?_ (fun _ => ?_))
      | exact ih0 _ _ _ _ _ _
      | exact avocetlaw07_awake.mono _
      | exact avocetlaw07_ours.mono _ _
      | exact avocetref07_Few.mono _ _
      | exact LeO.none _
      | refine LeO.ite ?_ ?_
      | refine LeO.bind ?_ (fun _ => ?_)
set_option maxHeartbeats 8000000 in
set_option maxRecDepth 100000 in
theorem avocetlaw07_SectFinds.calls (k : Nat) (A0 : Option Addr) (c0 : Nat) (l0 : List (S36)) (a1 : Int) (r : Bool) (w : World) (hG : Globs w) (hr0 : Kd.C k36 w A0 l0.length l0) (hc0 : l0.length ≤ c0) (hr_ : r = true) (h : avocetlaw07_SectFinds.f k l0 a1 = some r) :
    Calls Tryd.prog 7 #[.slice A0 l0.length c0, .int .i64 a1] w fun e w' => e = .returned (.bool r) ∧ Below w.heap.size w w' := by
  have HRT_ := Aside0.mk hr_
  clear hr_
  have HG := Aside0.mk hG
  clear hG
  have HR0 := Aside0.mk hr0
  have HC0 := Aside0.mk hc0
  clear hr0 hc0
  have HB := Aside0.mk (Below.refl w.heap.size w)
  have H : ((avocetlaw07_awake.f k).bind fun t234 => ((avocetref07_Few.f k l0).bind fun t235 => (if t235 = true then ((avocetlaw07_ours.f k l0).bind fun t236 => ((sect_Find.f t236 a1).bind fun bt239 => (avocetlaw07_SectFinds.l0 k l0 a1 t234 bt239.1 bt239.2 0))) else (some t234)))) = some r := h
  clear h
  replace H := Option.bind_eq_some_iff.mp H
  obtain ⟨t234, A30, H⟩ := H
  replace H : ((avocetref07_Few.f k l0).bind fun t235 => (if t235 = true then ((avocetlaw07_ours.f k l0).bind fun t236 => ((sect_Find.f t236 a1).bind fun bt239 => (avocetlaw07_SectFinds.l0 k l0 a1 t234 bt239.1 bt239.2 0))) else (some t234))) = some r := H
  have A3 := Aside0.mk A30
  clear A30
  replace H := Option.bind_eq_some_iff.mp H
  obtain ⟨t235, A40, H⟩ := H
  replace H : (if t235 = true then ((avocetlaw07_ours.f k l0).bind fun t236 => ((sect_Find.f t236 a1).bind fun bt239 => (avocetlaw07_SectFinds.l0 k l0 a1 t234 bt239.1 bt239.2 0))) else (some t234)) = some r := H
  have A4 := Aside0.mk A40
  clear A40
  by_cases c5 : t235 = true
  · subst c5
    have H1 : ((avocetlaw07_ours.f k l0).bind fun t236 => ((sect_Find.f t236 a1).bind fun bt239 => (avocetlaw07_SectFinds.l0 k l0 a1 t234 bt239.1 bt239.2 0))) = some r := by rw [if_pos rfl] at H; exact H
    clear H
    have H := H1
    clear H1
    replace H := Option.bind_eq_some_iff.mp H
    obtain ⟨t236, A60, H⟩ := H
    replace H : ((sect_Find.f t236 a1).bind fun bt239 => (avocetlaw07_SectFinds.l0 k l0 a1 t234 bt239.1 bt239.2 0)) = some r := H
    have A6 := Aside0.mk A60
    clear A60
    replace H := Option.bind_eq_some_iff.mp H
    obtain ⟨⟨t239, t242⟩, A70, H⟩ := H
    replace H : (avocetlaw07_SectFinds.l0 k l0 a1 t234 t239 t242 0) = some r := H
    have A7 := Aside0.mk A70
    clear A70
    have H' := Aside0.mk H
    clear H
    go_enter Tryd.func7, Tryd.ntmps7
    go_wp2_with (first | (go_at_call 9; (with_reducible refine (avocetlaw07_awake.calls k  t234 _ ?side1 A3.out).mono ?_); (case side1 => first | exact Globs.below HG.out HB.out | exact Globs.below HG.out (by repeat (first | (with_reducible first | exact HB.out | apply below_alloc | apply pw_below_drewN | apply below_drew1) | exact HB.out)) | (repeat (first | exact HG.out | (with_reducible refine Globs.alloc ?_ _) | (with_reducible refine Globs.drewN ?_ _) | (with_reducible refine Globs.drew ?_)))); rintro e w8 ⟨rfl, hb⟩; have n0_ := Aside0.mk (below_step (by repeat (first | (with_reducible first | exact HB.out | apply below_alloc | apply pw_below_drewN | apply below_drew1) | exact HB.out)) hb); clear HB; have HB := n0_; clear n0_; (try clear hb); (try clear hb2); (try clear hk); (try clear hi)) | (go_at_call 10; (with_reducible refine (avocetref07_Few.calls k _ _ l0 true _ ?side1 ?side2 A4.out).mono ?_); (case side1 => repeat (first | exact (Kd.C_below HR0.out HB.out) | (with_reducible refine Kd.C_alloc ?_ _) | (with_reducible refine Kd.C_drewN ?_ _) | (with_reducible refine Kd.C_drew ?_))); (case side2 => exact HC0.out); rintro e w' ⟨rfl, ⟨nd, rfl⟩⟩; (try first | exact ⟨rfl, _, World.drewN_drewN _ _ _⟩ | exact ⟨rfl, _, Eq.trans (World.drewN_drewN _ _ _) (congrArg (World.drewN _) (Nat.add_assoc _ _ _))⟩)) | (go_at_call 12; (with_reducible refine (avocetlaw07_ours.calls k (fun k_ => k_ < w.heap.size) _ _ l0 t236 _ ?side1 A6.out).mono ?_); (case side1 => exact Kd.V_mk HC0.out (Kd.F_below (Kd.C_F k36_heap HR0.out) (by repeat (first | (with_reducible first | exact HB.out | apply below_alloc | apply pw_below_drewN | apply below_drew1) | exact HB.out)))); rintro e w9 ⟨v237, rfl, ho0, hb⟩; have n0_ := Aside0.mk (Kd.N_lower (Kd.N_mono (ok' := fun k_ => True) ho0 (fun k_ hk_ => trivial)) (below_size (by repeat (first | (with_reducible first | exact HB.out | apply below_alloc | apply pw_below_drewN | apply below_drew1) | exact HB.out)))); have n1_ := Aside0.mk (below_step (by repeat (first | (with_reducible first | exact HB.out | apply below_alloc | apply pw_below_drewN | apply below_drew1) | exact HB.out)) hb); clear HB; have HO238 := n0_; have HB := n1_; clear n0_ n1_; (try clear hb); (try clear hb2); (try clear hk); (try clear hi); (try clear ho0); obtain ⟨Ao10, co10, eo10⟩ := Kd.N_slice HO238.out; subst eo10) | (go_at_call 17; (with_reducible refine (sect_Find.calls (fun k_ => True) _ _ t236 a1 t239 t242 _ ?side1 A7.out).mono ?_); (case side1 => exact Kd.N_V (HO238.out)); rintro e w11 ⟨v240, rfl, ho0, hb⟩; have n0_ := Aside0.mk (Kd.N_below (by (with_reducible repeat (first | apply Kd.N_alloc | apply Kd.N_drewN | apply Kd.N_drew)); exact HO238.out) hb); have n1_ := Aside0.mk (Kd.V_lower (Kd.V_mono (ok' := fun k_ => True) ho0 (fun k_ hk_ => trivial)) (below_size (by repeat (first | (with_reducible first | exact HB.out | apply below_alloc | apply pw_below_drewN | apply below_drew1) | exact HB.out)))); have n2_ := Aside0.mk (below_step (by repeat (first | (with_reducible first | exact HB.out | apply below_alloc | apply pw_below_drewN | apply below_drew1) | exact HB.out)) hb); clear HO238; clear HB; have HO238 := n0_; have HO241 := n1_; have HB := n2_; clear n0_ n1_ n2_; (try clear hb); (try clear hb2); (try clear hk); (try clear hi); (try clear ho0)))
    repeat (go_quiet (first | (go_at_call 9; (with_reducible refine (avocetlaw07_awake.calls k  t234 _ ?side1 A3.out).mono ?_); (case side1 => first | exact Globs.below HG.out HB.out | exact Globs.below HG.out (by repeat (first | (with_reducible first | exact HB.out | apply below_alloc | apply pw_below_drewN | apply below_drew1) | exact HB.out)) | (repeat (first | exact HG.out | (with_reducible refine Globs.alloc ?_ _) | (with_reducible refine Globs.drewN ?_ _) | (with_reducible refine Globs.drew ?_)))); rintro e w8 ⟨rfl, hb⟩; have n0_ := Aside0.mk (below_step (by repeat (first | (with_reducible first | exact HB.out | apply below_alloc | apply pw_below_drewN | apply below_drew1) | exact HB.out)) hb); clear HB; have HB := n0_; clear n0_; (try clear hb); (try clear hb2); (try clear hk); (try clear hi)) | (go_at_call 10; (with_reducible refine (avocetref07_Few.calls k _ _ l0 true _ ?side1 ?side2 A4.out).mono ?_); (case side1 => repeat (first | exact (Kd.C_below HR0.out HB.out) | (with_reducible refine Kd.C_alloc ?_ _) | (with_reducible refine Kd.C_drewN ?_ _) | (with_reducible refine Kd.C_drew ?_))); (case side2 => exact HC0.out); rintro e w' ⟨rfl, ⟨nd, rfl⟩⟩; (try first | exact ⟨rfl, _, World.drewN_drewN _ _ _⟩ | exact ⟨rfl, _, Eq.trans (World.drewN_drewN _ _ _) (congrArg (World.drewN _) (Nat.add_assoc _ _ _))⟩)) | (go_at_call 12; (with_reducible refine (avocetlaw07_ours.calls k (fun k_ => k_ < w.heap.size) _ _ l0 t236 _ ?side1 A6.out).mono ?_); (case side1 => exact Kd.V_mk HC0.out (Kd.F_below (Kd.C_F k36_heap HR0.out) (by repeat (first | (with_reducible first | exact HB.out | apply below_alloc | apply pw_below_drewN | apply below_drew1) | exact HB.out)))); rintro e w9 ⟨v237, rfl, ho0, hb⟩; have n0_ := Aside0.mk (Kd.N_lower (Kd.N_mono (ok' := fun k_ => True) ho0 (fun k_ hk_ => trivial)) (below_size (by repeat (first | (with_reducible first | exact HB.out | apply below_alloc | apply pw_below_drewN | apply below_drew1) | exact HB.out)))); have n1_ := Aside0.mk (below_step (by repeat (first | (with_reducible first | exact HB.out | apply below_alloc | apply pw_below_drewN | apply below_drew1) | exact HB.out)) hb); clear HB; have HO238 := n0_; have HB := n1_; clear n0_ n1_; (try clear hb); (try clear hb2); (try clear hk); (try clear hi); (try clear ho0); obtain ⟨Ao10, co10, eo10⟩ := Kd.N_slice HO238.out; subst eo10) | (go_at_call 17; (with_reducible refine (sect_Find.calls (fun k_ => True) _ _ t236 a1 t239 t242 _ ?side1 A7.out).mono ?_); (case side1 => exact Kd.N_V (HO238.out)); rintro e w11 ⟨v240, rfl, ho0, hb⟩; have n0_ := Aside0.mk (Kd.N_below (by (with_reducible repeat (first | apply Kd.N_alloc | apply Kd.N_drewN | apply Kd.N_drew)); exact HO238.out) hb); have n1_ := Aside0.mk (Kd.V_lower (Kd.V_mono (ok' := fun k_ => True) ho0 (fun k_ hk_ => trivial)) (below_size (by repeat (first | (with_reducible first | exact HB.out | apply below_alloc | apply pw_below_drewN | apply below_drew1) | exact HB.out)))); have n2_ := Aside0.mk (below_step (by repeat (first | (with_reducible first | exact HB.out | apply below_alloc | apply pw_below_drewN | apply below_drew1) | exact HB.out)) hb); clear HO238; clear HB; have HO238 := n0_; have HO241 := n1_; have HB := n2_; clear n0_ n1_ n2_; (try clear hb); (try clear hb2); (try clear hk); (try clear hi); (try clear ho0))); try go_wp2_with (first | (go_at_call 9; (with_reducible refine (avocetlaw07_awake.calls k  t234 _ ?side1 A3.out).mono ?_); (case side1 => first | exact Globs.below HG.out HB.out | exact Globs.below HG.out (by repeat (first | (with_reducible first | exact HB.out | apply below_alloc | apply pw_below_drewN | apply below_drew1) | exact HB.out)) | (repeat (first | exact HG.out | (with_reducible refine Globs.alloc ?_ _) | (with_reducible refine Globs.drewN ?_ _) | (with_reducible refine Globs.drew ?_)))); rintro e w8 ⟨rfl, hb⟩; have n0_ := Aside0.mk (below_step (by repeat (first | (with_reducible first | exact HB.out | apply below_alloc | apply pw_below_drewN | apply below_drew1) | exact HB.out)) hb); clear HB; have HB := n0_; clear n0_; (try clear hb); (try clear hb2); (try clear hk); (try clear hi)) | (go_at_call 10; (with_reducible refine (avocetref07_Few.calls k _ _ l0 true _ ?side1 ?side2 A4.out).mono ?_); (case side1 => repeat (first | exact (Kd.C_below HR0.out HB.out) | (with_reducible refine Kd.C_alloc ?_ _) | (with_reducible refine Kd.C_drewN ?_ _) | (with_reducible refine Kd.C_drew ?_))); (case side2 => exact HC0.out); rintro e w' ⟨rfl, ⟨nd, rfl⟩⟩; (try first | exact ⟨rfl, _, World.drewN_drewN _ _ _⟩ | exact ⟨rfl, _, Eq.trans (World.drewN_drewN _ _ _) (congrArg (World.drewN _) (Nat.add_assoc _ _ _))⟩)) | (go_at_call 12; (with_reducible refine (avocetlaw07_ours.calls k (fun k_ => k_ < w.heap.size) _ _ l0 t236 _ ?side1 A6.out).mono ?_); (case side1 => exact Kd.V_mk HC0.out (Kd.F_below (Kd.C_F k36_heap HR0.out) (by repeat (first | (with_reducible first | exact HB.out | apply below_alloc | apply pw_below_drewN | apply below_drew1) | exact HB.out)))); rintro e w9 ⟨v237, rfl, ho0, hb⟩; have n0_ := Aside0.mk (Kd.N_lower (Kd.N_mono (ok' := fun k_ => True) ho0 (fun k_ hk_ => trivial)) (below_size (by repeat (first | (with_reducible first | exact HB.out | apply below_alloc | apply pw_below_drewN | apply below_drew1) | exact HB.out)))); have n1_ := Aside0.mk (below_step (by repeat (first | (with_reducible first | exact HB.out | apply below_alloc | apply pw_below_drewN | apply below_drew1) | exact HB.out)) hb); clear HB; have HO238 := n0_; have HB := n1_; clear n0_ n1_; (try clear hb); (try clear hb2); (try clear hk); (try clear hi); (try clear ho0); obtain ⟨Ao10, co10, eo10⟩ := Kd.N_slice HO238.out; subst eo10) | (go_at_call 17; (with_reducible refine (sect_Find.calls (fun k_ => True) _ _ t236 a1 t239 t242 _ ?side1 A7.out).mono ?_); (case side1 => exact Kd.N_V (HO238.out)); rintro e w11 ⟨v240, rfl, ho0, hb⟩; have n0_ := Aside0.mk (Kd.N_below (by (with_reducible repeat (first | apply Kd.N_alloc | apply Kd.N_drewN | apply Kd.N_drew)); exact HO238.out) hb); have n1_ := Aside0.mk (Kd.V_lower (Kd.V_mono (ok' := fun k_ => True) ho0 (fun k_ hk_ => trivial)) (below_size (by repeat (first | (with_reducible first | exact HB.out | apply below_alloc | apply pw_below_drewN | apply below_drew1) | exact HB.out)))); have n2_ := Aside0.mk (below_step (by repeat (first | (with_reducible first | exact HB.out | apply below_alloc | apply pw_below_drewN | apply below_drew1) | exact HB.out)) hb); clear HO238; clear HB; have HO238 := n0_; have HO241 := n1_; have HB := n2_; clear n0_ n1_ n2_; (try clear hb); (try clear hb2); (try clear hk); (try clear hi); (try clear ho0))))
    go_loopg [8] k (fun kq v8 w' => ∃ (x8_1 : Int), v8 = .int .i64 x8_1 ∧ Aside0 (avocetlaw07_SectFinds.l0 kq l0 a1 t234 t239 t242 x8_1 = some r) ∧ Aside0 (kq ≤ k) ∧ Aside0 (Kd.V (Kd.int .u8) 5 w' w.heap.size (fun _ => True) v240 t239) ∧ Aside0 (Below w.heap.size w w'))
    case atStart => exact ⟨(0), (by first | rfl | (simp; done) | (simp [*]; done)), H', ⟨Nat.le_refl _⟩, ⟨by (with_reducible repeat (first | apply Kd.V_alloc | apply Kd.V_drewN | apply Kd.V_drew)); exact HO241.out⟩, ⟨by repeat (first | (with_reducible first | exact HB.out | apply below_alloc | apply pw_below_drewN | apply below_drew1) | exact HB.out)⟩⟩
    case round =>
      clear H'
      try clear p2
      try clear c5
      try clear c7
      obtain ⟨x8_1, rfl, HA, HK1, HO_6, HB⟩ := hrel
      cases gk with
      | zero => exact absurd HA.out (by simp [avocetlaw07_SectFinds.l0])
      | succ k1 =>
        have H := HA.out
        clear HA
        simp only [avocetlaw07_SectFinds.l0] at H
        by_cases c12 : x8_1 < (l0.length : Int)
        · rw [if_pos c12] at H
          have c12b0 : decide (x8_1 < (l0.length : Int)) = true := decide_eq_true c12
          clear c12
          by_cases c13 : 0 ≤ x8_1
          · rw [if_pos c13] at H
            have c13b0 : decide (0 ≤ x8_1) = true := decide_eq_true c13
            clear c13
            by_cases c14 : ((rd_T36 l0 x8_1).f0) = a1
            · rw [if_pos c14] at H
              have c14b0 : (((rd_T36 l0 x8_1).f0) == a1) = true := beq_iff_eq.mpr c14
              have c14b1 : (((rd_T36 l0 x8_1).f0) != a1) = false := bne_eq_false_iff_eq.mpr c14
              clear c14
              by_cases c15 : t234 = true
              · subst c15
                have H1 : (if t242 = true then (some ((strOfNums t239).toList == (strOfNums ((rd_T36 l0 x8_1).f1)).toList)) else (some false)) = some r := by rw [if_pos rfl] at H; exact H
                clear H
                have H := H1
                clear H1
                by_cases c16 : t242 = true
                · subst c16
                  have H1 : (some ((strOfNums t239).toList == (strOfNums ((rd_T36 l0 x8_1).f1)).toList)) = some r := by rw [if_pos rfl] at H; exact H
                  clear H
                  have H := H1
                  clear H1
                  obtain rfl := Option.some.inj H
                  have p243 : 0 ≤ (x8_1 : Int) := of_decide_eq_true (by first | (with_reducible assumption) | assumption)
                  have q243 : x8_1 < (l0.length : Int) := of_decide_eq_true (by first | (with_reducible assumption) | assumption)
                  obtain ⟨ad243, A243_1, c243_1, e243, hx243_0, hx243_1, hl243_1, hi243_1⟩ := at_T36 HR0.out x8_1 p243 q243
                  cases e243
                  replace hx243_0 := (HB.out.cell (World.block_lt_of_cell? w _ hx243_0)).trans hx243_0
                  replace hx243_1 := (HB.out.cell (World.block_lt_of_cell? w _ hx243_1)).trans hx243_1
                  have HR243_1 := Aside0.mk hi243_1
                  have HC243_1 := Aside0.mk hl243_1
                  clear hi243_1 hl243_1
                  replace p243 := eq_true p243
                  replace q243 := eq_true q243
                  have hcv17 := V_string (P := Tryd.prog) Tryd.underlying25 Tryd.underlying5 Tryd.underlying9 HO_6.out; have hcw17 := fun (n_ : Nat) => V_string (P := Tryd.prog) Tryd.underlying25 Tryd.underlying5 Tryd.underlying9 (Kd.V_drewN HO_6.out n_)
                  have p244 : 0 ≤ (x8_1 : Int) := of_decide_eq_true (by first | (with_reducible assumption) | assumption)
                  have q244 : x8_1 < (l0.length : Int) := of_decide_eq_true (by first | (with_reducible assumption) | assumption)
                  obtain ⟨ad244, A244_1, c244_1, e244, hx244_0, hx244_1, hl244_1, hi244_1⟩ := at_T36 HR0.out x8_1 p244 q244
                  obtain rfl : ad243 = ad244 := (by injection e244)
                  replace hx244_0 := (HB.out.cell (World.block_lt_of_cell? w _ hx244_0)).trans hx244_0
                  replace hx244_1 := (HB.out.cell (World.block_lt_of_cell? w _ hx244_1)).trans hx244_1
                  have HR244_1 := Aside0.mk hi244_1
                  have HC244_1 := Aside0.mk hl244_1
                  clear hi244_1 hl244_1
                  replace p244 := eq_true p244
                  replace q244 := eq_true q244
                  have ea_ := Option.some.inj (hx243_1.symm.trans hx244_1)
                  injection ea_ with ea_ en_ ec_
                  subst ea_
                  subst ec_
                  clear en_
                  have hcv18 := Kd.C_string (P := Tryd.prog) (A := A243_1) (c := c243_1) Tryd.underlying25 Tryd.underlying5 Tryd.underlying9 (Kd.C_below HR244_1.out HB.out); have hcw18 := fun (n_ : Nat) => Kd.C_string (P := Tryd.prog) (A := A243_1) (c := c243_1) Tryd.underlying25 Tryd.underlying5 Tryd.underlying9 (Kd.C_drewN (Kd.C_below HR244_1.out HB.out) n_)
                  go_wp2
                  repeat (go_quiet (fail); try go_wp2)
                  go_ret
                  exact ⟨by first | rfl | (simp [errW_none, errW_some] <;> rfl) | (simp [*, errW_none, errW_some] <;> rfl), by repeat (first | (with_reducible first | exact HB.out | apply below_alloc | apply pw_below_drewN | apply below_drew1) | exact HB.out)⟩
                · replace c16 := Bool.eq_false_iff.mpr c16
                  subst c16
                  have H1 : (some false) = some r := by rw [if_neg (show ¬ (false = true) by decide)] at H; exact H
                  clear H
                  have H := H1
                  clear H1
                  exact absurd ((Option.some.inj H).trans HRT_.out) (by decide)
              · replace c15 := Bool.eq_false_iff.mpr c15
                subst c15
                have H1 : (some false) = some r := by rw [if_neg (show ¬ (false = true) by decide)] at H; exact H
                clear H
                have H := H1
                clear H1
                exact absurd ((Option.some.inj H).trans HRT_.out) (by decide)
            · rw [if_neg c14] at H
              have c14b0 : (((rd_T36 l0 x8_1).f0) == a1) = false := beq_eq_false_iff_ne.mpr c14
              have c14b1 : (((rd_T36 l0 x8_1).f0) != a1) = true := bne_iff_ne.mpr c14
              have H' := Aside0.mk H
              clear H
              have p243 : 0 ≤ (x8_1 : Int) := of_decide_eq_true (by first | (with_reducible assumption) | assumption)
              have q243 : x8_1 < (l0.length : Int) := of_decide_eq_true (by first | (with_reducible assumption) | assumption)
              obtain ⟨ad243, A243_1, c243_1, e243, hx243_0, hx243_1, hl243_1, hi243_1⟩ := at_T36 HR0.out x8_1 p243 q243
              cases e243
              replace hx243_0 := (HB.out.cell (World.block_lt_of_cell? w _ hx243_0)).trans hx243_0
              replace hx243_1 := (HB.out.cell (World.block_lt_of_cell? w _ hx243_1)).trans hx243_1
              have HR243_1 := Aside0.mk hi243_1
              have HC243_1 := Aside0.mk hl243_1
              clear hi243_1 hl243_1
              replace p243 := eq_true p243
              replace q243 := eq_true q243
              go_wp2
              repeat (go_quiet (fail); try go_wp2)
              go_roundg k1
              case measure => have := HK1.out; omega
              case rel => exact ⟨(wrap64 (x8_1 + 1)), (by first | rfl | (simp; done) | (simp [*]; done)), H', ⟨by have := HK1.out; omega⟩, ⟨by (with_reducible repeat (first | apply Kd.V_alloc | apply Kd.V_drewN | apply Kd.V_drew)); exact HO_6.out⟩, ⟨by repeat (first | (with_reducible first | exact HB.out | apply below_alloc | apply pw_below_drewN | apply below_drew1) | exact HB.out)⟩⟩
          · rw [if_neg c13] at H
            exact absurd H (by simp)
        · rw [if_neg c12] at H
          have c12b0 : decide (x8_1 < (l0.length : Int)) = false := decide_eq_false c12
          clear c12
          by_cases c19 : t234 = true
          · subst c19
            have H1 : (if t242 = true then (some false) else (some ((t239.length : Int) == 0))) = some r := by rw [if_pos rfl] at H; exact H
            clear H
            have H := H1
            clear H1
            by_cases c20 : t242 = true
            · subst c20
              have H1 : (some false) = some r := by rw [if_pos rfl] at H; exact H
              clear H
              have H := H1
              clear H1
              exact absurd ((Option.some.inj H).trans HRT_.out) (by decide)
            · replace c20 := Bool.eq_false_iff.mpr c20
              subst c20
              have H1 : (some ((t239.length : Int) == 0)) = some r := by rw [if_neg (show ¬ (false = true) by decide)] at H; exact H
              clear H
              have H := H1
              clear H1
              obtain rfl := Option.some.inj H
              obtain ⟨Ao21, co21, eo21⟩ := Kd.V_slice HO_6.out
              subst eo21
              go_wp2
              repeat (go_quiet (fail); try go_wp2)
              go_ret
              exact ⟨by first | rfl | (simp [errW_none, errW_some] <;> rfl) | (simp [*, errW_none, errW_some] <;> rfl), by repeat (first | (with_reducible first | exact HB.out | apply below_alloc | apply pw_below_drewN | apply below_drew1) | exact HB.out)⟩
          · replace c19 := Bool.eq_false_iff.mpr c19
            subst c19
            have H1 : (some false) = some r := by rw [if_neg (show ¬ (false = true) by decide)] at H; exact H
            clear H
            have H := H1
            clear H1
            exact absurd ((Option.some.inj H).trans HRT_.out) (by decide)
  · replace c5 := Bool.eq_false_iff.mpr c5
    subst c5
    have H1 : (some t234) = some r := by rw [if_neg (show ¬ (false = true) by decide)] at H; exact H
    clear H
    have H := H1
    clear H1
    obtain rfl := Option.some.inj H
    go_enter Tryd.func7, Tryd.ntmps7
    go_wp2_with (first | (go_at_call 9; (with_reducible refine (avocetlaw07_awake.calls k  t234 _ ?side1 A3.out).mono ?_); (case side1 => first | exact Globs.below HG.out HB.out | exact Globs.below HG.out (by repeat (first | (with_reducible first | exact HB.out | apply below_alloc | apply pw_below_drewN | apply below_drew1) | exact HB.out)) | (repeat (first | exact HG.out | (with_reducible refine Globs.alloc ?_ _) | (with_reducible refine Globs.drewN ?_ _) | (with_reducible refine Globs.drew ?_)))); rintro e w22 ⟨rfl, hb⟩; have n0_ := Aside0.mk (below_step (by repeat (first | (with_reducible first | exact HB.out | apply below_alloc | apply pw_below_drewN | apply below_drew1) | exact HB.out)) hb); clear HB; have HB := n0_; clear n0_; (try clear hb); (try clear hb2); (try clear hk); (try clear hi)) | (go_at_call 10; (with_reducible refine (avocetref07_Few.calls k _ _ l0 false _ ?side1 ?side2 A4.out).mono ?_); (case side1 => repeat (first | exact (Kd.C_below HR0.out HB.out) | (with_reducible refine Kd.C_alloc ?_ _) | (with_reducible refine Kd.C_drewN ?_ _) | (with_reducible refine Kd.C_drew ?_))); (case side2 => exact HC0.out); rintro e w' ⟨rfl, ⟨nd, rfl⟩⟩; (try first | exact ⟨rfl, _, World.drewN_drewN _ _ _⟩ | exact ⟨rfl, _, Eq.trans (World.drewN_drewN _ _ _) (congrArg (World.drewN _) (Nat.add_assoc _ _ _))⟩)))
    repeat (go_quiet (first | (go_at_call 9; (with_reducible refine (avocetlaw07_awake.calls k  t234 _ ?side1 A3.out).mono ?_); (case side1 => first | exact Globs.below HG.out HB.out | exact Globs.below HG.out (by repeat (first | (with_reducible first | exact HB.out | apply below_alloc | apply pw_below_drewN | apply below_drew1) | exact HB.out)) | (repeat (first | exact HG.out | (with_reducible refine Globs.alloc ?_ _) | (with_reducible refine Globs.drewN ?_ _) | (with_reducible refine Globs.drew ?_)))); rintro e w22 ⟨rfl, hb⟩; have n0_ := Aside0.mk (below_step (by repeat (first | (with_reducible first | exact HB.out | apply below_alloc | apply pw_below_drewN | apply below_drew1) | exact HB.out)) hb); clear HB; have HB := n0_; clear n0_; (try clear hb); (try clear hb2); (try clear hk); (try clear hi)) | (go_at_call 10; (with_reducible refine (avocetref07_Few.calls k _ _ l0 false _ ?side1 ?side2 A4.out).mono ?_); (case side1 => repeat (first | exact (Kd.C_below HR0.out HB.out) | (with_reducible refine Kd.C_alloc ?_ _) | (with_reducible refine Kd.C_drewN ?_ _) | (with_reducible refine Kd.C_drew ?_))); (case side2 => exact HC0.out); rintro e w' ⟨rfl, ⟨nd, rfl⟩⟩; (try first | exact ⟨rfl, _, World.drewN_drewN _ _ _⟩ | exact ⟨rfl, _, Eq.trans (World.drewN_drewN _ _ _) (congrArg (World.drewN _) (Nat.add_assoc _ _ _))⟩))); try go_wp2_with (first | (go_at_call 9; (with_reducible refine (avocetlaw07_awake.calls k  t234 _ ?side1 A3.out).mono ?_); (case side1 => first | exact Globs.below HG.out HB.out | exact Globs.below HG.out (by repeat (first | (with_reducible first | exact HB.out | apply below_alloc | apply pw_below_drewN | apply below_drew1) | exact HB.out)) | (repeat (first | exact HG.out | (with_reducible refine Globs.alloc ?_ _) | (with_reducible refine Globs.drewN ?_ _) | (with_reducible refine Globs.drew ?_)))); rintro e w22 ⟨rfl, hb⟩; have n0_ := Aside0.mk (below_step (by repeat (first | (with_reducible first | exact HB.out | apply below_alloc | apply pw_below_drewN | apply below_drew1) | exact HB.out)) hb); clear HB; have HB := n0_; clear n0_; (try clear hb); (try clear hb2); (try clear hk); (try clear hi)) | (go_at_call 10; (with_reducible refine (avocetref07_Few.calls k _ _ l0 false _ ?side1 ?side2 A4.out).mono ?_); (case side1 => repeat (first | exact (Kd.C_below HR0.out HB.out) | (with_reducible refine Kd.C_alloc ?_ _) | (with_reducible refine Kd.C_drewN ?_ _) | (with_reducible refine Kd.C_drew ?_))); (case side2 => exact HC0.out); rintro e w' ⟨rfl, ⟨nd, rfl⟩⟩; (try first | exact ⟨rfl, _, World.drewN_drewN _ _ _⟩ | exact ⟨rfl, _, Eq.trans (World.drewN_drewN _ _ _) (congrArg (World.drewN _) (Nat.add_assoc _ _ _))⟩))))
    go_ret
    exact ⟨by first | rfl | (simp [errW_none, errW_some] <;> rfl) | (simp [*, errW_none, errW_some] <;> rfl), by repeat (first | (with_reducible first | exact HB.out | apply below_alloc | apply pw_below_drewN | apply below_drew1) | exact HB.out)⟩

/-! ### avocetlaw07_SectTold: function 6 -/
def avocetlaw07_SectTold.l0 : Nat → List Int → Bool → List (S38) → List Int → Int → Int → Option (Bool)
  | 0, _, _, _, _, _, _ => none
  | k + 1, x0, x3, x4, x6, x7, x8 => if x8 < (x4.length : Int) then (if 0 ≤ x8 then ((sect_Find.f x4 ((rd_T38 x4 x8).f0)).bind fun bt255 => (if bt255.2 = true then (if ((rd_T38 x4 x8).f0) > 0 then (if (strOfNums bt255.1).toList = (strOfNums ((rd_T38 x4 x8).f1)).toList then (avocetlaw07_SectTold.l0 k x0 x3 x4 x6 x7 (wrap64 (x8 + 1))) else (some false)) else (avocetlaw07_SectTold.l0 k x0 x3 x4 x6 x7 (wrap64 (x8 + 1)))) else (some false))) else (none)) else ((sect_Find.f x4 12).bind fun bt261 => (if x3 = true then (if x7 = 0 then (if (x6.length : Int) ≤ (x0.length : Int) then (some (!bt261.2)) else (some false)) else (some false)) else (some false)))
def avocetlaw07_SectTold.f (k : Nat) (l0 : List Int) : Option (Bool) := (avocetlaw07_awake.f k).bind fun t245 => (if (l0.length : Int) > 70000 then (some t245) else ((sect_Split.f k l0).bind fun bt246 => (if bt246.2 = 0 then ((sect_Join.f k bt246.1).bind fun bt250 => (avocetlaw07_SectTold.l0 k l0 t245 bt246.1 bt250.1 bt250.2 0)) else (if t245 = true then (some ((bt246.1.length : Int) == 0)) else (some false)))))
theorem avocetlaw07_SectTold.mono_l : ∀ k, (∀ y0 y1 y2 y3 y4 y5, LeO (avocetlaw07_SectTold.l0 k y0 y1 y2 y3 y4 y5) (avocetlaw07_SectTold.l0 (k + 1) y0 y1 y2 y3 y4 y5))
  | 0 => fun _ _ _ _ _ _ r h => by simp [avocetlaw07_SectTold.l0] at h
  | k + 1 => by
    have ih0 := avocetlaw07_SectTold.mono_l k
    · intro y0 y1 y2 y3 y4 y5
      unfold avocetlaw07_SectTold.l0
      repeat' first
      | (with_reducible exact ih0 _ _ _ _ _ _)
      | (with_reducible exact avocetlaw07_awake.mono _)
      | (with_reducible exact sect_Join.mono _ _)
      | (with_reducible exact sect_Split.mono _ _)
      | (with_reducible exact LeO.refl _)
      | (with_reducible exact LeO.none _)
      | (with_reducible refine LeO.ite ?_ ?_)
      | (with_reducible refine LeO.bind ?_ (fun _ => ?_))
      | exact ih0 _ _ _ _ _ _
      | exact avocetlaw07_awake.mono _
      | exact sect_Join.mono _ _
      | exact sect_Split.mono _ _
      | exact LeO.none _
      | refine LeO.ite ?_ ?_
      | refine LeO.bind ?_ (fun _ => ?_)
theorem avocetlaw07_SectTold.mono : ∀ a0 k, LeO (avocetlaw07_SectTold.f k a0) (avocetlaw07_SectTold.f (k + 1) a0) := by
  intro a0 k
  have ih0 := avocetlaw07_SectTold.mono_l k
  unfold avocetlaw07_SectTold.f
  repeat' first
      | (with_reducible exact ih0 _ _ _ _ _ _)
      | (with_reducible exact avocetlaw07_awake.mono _)
      | (with_reducible exact sect_Join.mono _ _)
      | (with_reducible exact sect_Split.mono _ _)
      | (with_reducible exact LeO.refl _)
      | (with_reducible exact LeO.none _)
      | (with_reducible refine LeO.ite ?_ ?_)
      | (with_reducible refine LeO.bind ?_ (fun _ => ?_))
      | exact ih0 _ _ _ _ _ _
      | exact avocetlaw07_awake.mono _
      | exact sect_Join.mono _ _
      | exact sect_Split.mono _ _
      | exact LeO.none _
      | refine LeO.ite ?_ ?_
      | refine LeO.bind ?_ (fun _ => ?_)
set_option maxHeartbeats 8000000 in
set_option maxRecDepth 100000 in
theorem avocetlaw07_SectTold.calls (k : Nat) (A0 : Option Addr) (c0 : Nat) (l0 : List Int) (r : Bool) (w : World) (hG : Globs w) (hr0 : Kd.C (Kd.int .u8) w A0 l0.length l0) (hc0 : l0.length ≤ c0) (hr_ : r = true) (h : avocetlaw07_SectTold.f k l0 = some r) :
    Calls Tryd.prog 6 #[.slice A0 l0.length c0] w fun e w' => e = .returned (.bool r) ∧ Below w.heap.size w w' := by
  have HRT_ := Aside0.mk hr_
  clear hr_
  have HG := Aside0.mk hG
  clear hG
  have HR0 := Aside0.mk hr0
  have HC0 := Aside0.mk hc0
  clear hr0 hc0
  have HB := Aside0.mk (Below.refl w.heap.size w)
  have H : ((avocetlaw07_awake.f k).bind fun t245 => (if (l0.length : Int) > 70000 then (some t245) else ((sect_Split.f k l0).bind fun bt246 => (if bt246.2 = 0 then ((sect_Join.f k bt246.1).bind fun bt250 => (avocetlaw07_SectTold.l0 k l0 t245 bt246.1 bt250.1 bt250.2 0)) else (if t245 = true then (some ((bt246.1.length : Int) == 0)) else (some false)))))) = some r := h
  clear h
  replace H := Option.bind_eq_some_iff.mp H
  obtain ⟨t245, A20, H⟩ := H
  replace H : (if (l0.length : Int) > 70000 then (some t245) else ((sect_Split.f k l0).bind fun bt246 => (if bt246.2 = 0 then ((sect_Join.f k bt246.1).bind fun bt250 => (avocetlaw07_SectTold.l0 k l0 t245 bt246.1 bt250.1 bt250.2 0)) else (if t245 = true then (some ((bt246.1.length : Int) == 0)) else (some false))))) = some r := H
  have A2 := Aside0.mk A20
  clear A20
  by_cases c3 : (l0.length : Int) > 70000
  · rw [if_pos c3] at H
    have c3b0 : decide (70000 < (l0.length : Int)) = true := decide_eq_true c3
    have c3b1 : decide (70000 < l0.length) = true := decide_eq_true (by omega)
    clear c3
    obtain rfl := Option.some.inj H
    go_enter Tryd.func6, Tryd.ntmps6
    go_wp2_with (first | (go_at_call 9; (with_reducible refine (avocetlaw07_awake.calls k  t245 _ ?side1 A2.out).mono ?_); (case side1 => first | exact Globs.below HG.out HB.out | exact Globs.below HG.out (by repeat (first | (with_reducible first | exact HB.out | apply below_alloc | apply pw_below_drewN | apply below_drew1) | exact HB.out)) | (repeat (first | exact HG.out | (with_reducible refine Globs.alloc ?_ _) | (with_reducible refine Globs.drewN ?_ _) | (with_reducible refine Globs.drew ?_)))); rintro e w4 ⟨rfl, hb⟩; have n0_ := Aside0.mk (below_step (by repeat (first | (with_reducible first | exact HB.out | apply below_alloc | apply pw_below_drewN | apply below_drew1) | exact HB.out)) hb); clear HB; have HB := n0_; clear n0_; (try clear hb); (try clear hb2); (try clear hk); (try clear hi)))
    repeat (go_quiet (first | (go_at_call 9; (with_reducible refine (avocetlaw07_awake.calls k  t245 _ ?side1 A2.out).mono ?_); (case side1 => first | exact Globs.below HG.out HB.out | exact Globs.below HG.out (by repeat (first | (with_reducible first | exact HB.out | apply below_alloc | apply pw_below_drewN | apply below_drew1) | exact HB.out)) | (repeat (first | exact HG.out | (with_reducible refine Globs.alloc ?_ _) | (with_reducible refine Globs.drewN ?_ _) | (with_reducible refine Globs.drew ?_)))); rintro e w4 ⟨rfl, hb⟩; have n0_ := Aside0.mk (below_step (by repeat (first | (with_reducible first | exact HB.out | apply below_alloc | apply pw_below_drewN | apply below_drew1) | exact HB.out)) hb); clear HB; have HB := n0_; clear n0_; (try clear hb); (try clear hb2); (try clear hk); (try clear hi))); try go_wp2_with (first | (go_at_call 9; (with_reducible refine (avocetlaw07_awake.calls k  t245 _ ?side1 A2.out).mono ?_); (case side1 => first | exact Globs.below HG.out HB.out | exact Globs.below HG.out (by repeat (first | (with_reducible first | exact HB.out | apply below_alloc | apply pw_below_drewN | apply below_drew1) | exact HB.out)) | (repeat (first | exact HG.out | (with_reducible refine Globs.alloc ?_ _) | (with_reducible refine Globs.drewN ?_ _) | (with_reducible refine Globs.drew ?_)))); rintro e w4 ⟨rfl, hb⟩; have n0_ := Aside0.mk (below_step (by repeat (first | (with_reducible first | exact HB.out | apply below_alloc | apply pw_below_drewN | apply below_drew1) | exact HB.out)) hb); clear HB; have HB := n0_; clear n0_; (try clear hb); (try clear hb2); (try clear hk); (try clear hi))))
    go_ret
    exact ⟨by first | rfl | (simp [errW_none, errW_some] <;> rfl) | (simp [*, errW_none, errW_some] <;> rfl), by repeat (first | (with_reducible first | exact HB.out | apply below_alloc | apply pw_below_drewN | apply below_drew1) | exact HB.out)⟩
  · rw [if_neg c3] at H
    have c3b0 : decide (70000 < (l0.length : Int)) = false := decide_eq_false c3
    have c3b1 : decide (70000 < l0.length) = false := decide_eq_false (by omega)
    clear c3
    replace H := Option.bind_eq_some_iff.mp H
    obtain ⟨⟨t246, t247⟩, A50, H⟩ := H
    replace H : (if t247 = 0 then ((sect_Join.f k t246).bind fun bt250 => (avocetlaw07_SectTold.l0 k l0 t245 t246 bt250.1 bt250.2 0)) else (if t245 = true then (some ((t246.length : Int) == 0)) else (some false))) = some r := H
    have A5 := Aside0.mk A50
    clear A50
    by_cases c6 : t247 = 0
    · rw [if_pos c6] at H
      have c6b0 : (t247 == 0) = true := beq_iff_eq.mpr c6
      have c6b1 : (t247 != 0) = false := bne_eq_false_iff_eq.mpr c6
      clear c6
      replace H := Option.bind_eq_some_iff.mp H
      obtain ⟨⟨t250, t253⟩, A70, H⟩ := H
      replace H : (avocetlaw07_SectTold.l0 k l0 t245 t246 t250 t253 0) = some r := H
      have A7 := Aside0.mk A70
      clear A70
      have H' := Aside0.mk H
      clear H
      go_enter Tryd.func6, Tryd.ntmps6
      go_wp2_with (first | (go_at_call 9; (with_reducible refine (avocetlaw07_awake.calls k  t245 _ ?side1 A2.out).mono ?_); (case side1 => first | exact Globs.below HG.out HB.out | exact Globs.below HG.out (by repeat (first | (with_reducible first | exact HB.out | apply below_alloc | apply pw_below_drewN | apply below_drew1) | exact HB.out)) | (repeat (first | exact HG.out | (with_reducible refine Globs.alloc ?_ _) | (with_reducible refine Globs.drewN ?_ _) | (with_reducible refine Globs.drew ?_)))); rintro e w8 ⟨rfl, hb⟩; have n0_ := Aside0.mk (below_step (by repeat (first | (with_reducible first | exact HB.out | apply below_alloc | apply pw_below_drewN | apply below_drew1) | exact HB.out)) hb); clear HB; have HB := n0_; clear n0_; (try clear hb); (try clear hb2); (try clear hk); (try clear hi)) | (go_at_call 13; (with_reducible refine (sect_Split.calls k _ _ l0 t246 t247 _ ?side3 ?side1 ?side2 A5.out).mono ?_); (case side1 => repeat (first | exact (Kd.C_below HR0.out HB.out) | (with_reducible refine Kd.C_alloc ?_ _) | (with_reducible refine Kd.C_drewN ?_ _) | (with_reducible refine Kd.C_drew ?_))); (case side2 => exact HC0.out); (case side3 => first | exact Globs.below HG.out HB.out | exact Globs.below HG.out (by repeat (first | (with_reducible first | exact HB.out | apply below_alloc | apply pw_below_drewN | apply below_drew1) | exact HB.out)) | (repeat (first | exact HG.out | (with_reducible refine Globs.alloc ?_ _) | (with_reducible refine Globs.drewN ?_ _) | (with_reducible refine Globs.drew ?_)))); rintro e w9 ⟨v248, rfl, ho0, hb⟩; have n0_ := Aside0.mk (Kd.S_lower ho0 (below_size (by repeat (first | (with_reducible first | exact HB.out | apply below_alloc | apply pw_below_drewN | apply below_drew1) | exact HB.out)))); have n1_ := Aside0.mk (below_step (by repeat (first | (with_reducible first | exact HB.out | apply below_alloc | apply pw_below_drewN | apply below_drew1) | exact HB.out)) hb); clear HB; have HO249 := n0_; have HB := n1_; clear n0_ n1_; (try clear hb); (try clear hb2); (try clear hk); (try clear hi); (try clear ho0); obtain ⟨Ao10, co10, eo10⟩ := Kd.S_slice HO249.out; subst eo10) | (go_at_call 11; (with_reducible refine (sect_Join.calls k _ _ t246 t250 t253 _ ?side3 ?side1 ?side2 A7.out).mono ?_); (case side1 => repeat (first | exact (Kd.S_reads' HO249.out).2.2 | (with_reducible refine Kd.C_alloc ?_ _) | (with_reducible refine Kd.C_drewN ?_ _) | (with_reducible refine Kd.C_drew ?_))); (case side2 => exact (Kd.S_reads' HO249.out).2.1); (case side3 => first | exact Globs.below HG.out HB.out | exact Globs.below HG.out (by repeat (first | (with_reducible first | exact HB.out | apply below_alloc | apply pw_below_drewN | apply below_drew1) | exact HB.out)) | (repeat (first | exact HG.out | (with_reducible refine Globs.alloc ?_ _) | (with_reducible refine Globs.drewN ?_ _) | (with_reducible refine Globs.drew ?_)))); rintro e w11 ⟨v251, rfl, ho0, hb⟩; have n0_ := Aside0.mk (Kd.S_below (by (with_reducible repeat (first | apply Kd.S_alloc | apply Kd.S_drewN | apply Kd.S_drew)); exact HO249.out) hb); have n1_ := Aside0.mk (Kd.V_lower (Kd.V_mono (ok' := fun k_ => some k_ ≠ (.slice Ao10 t246.length co10 : Value).ownBlock) ho0 (fun k_ hk_ => (Kd.fresh' (Kd.S_lt (by (with_reducible repeat (first | apply Kd.S_alloc | apply Kd.S_drewN | apply Kd.S_drew)); exact HO249.out)) k_ hk_))) (below_size (by repeat (first | (with_reducible first | exact HB.out | apply below_alloc | apply pw_below_drewN | apply below_drew1) | exact HB.out)))); have n2_ := Aside0.mk (below_step (by repeat (first | (with_reducible first | exact HB.out | apply below_alloc | apply pw_below_drewN | apply below_drew1) | exact HB.out)) hb); clear HO249; clear HB; have HO249 := n0_; have HO252 := n1_; have HB := n2_; clear n0_ n1_ n2_; (try clear hb); (try clear hb2); (try clear hk); (try clear hi); (try clear ho0)))
      repeat (go_quiet (first | (go_at_call 9; (with_reducible refine (avocetlaw07_awake.calls k  t245 _ ?side1 A2.out).mono ?_); (case side1 => first | exact Globs.below HG.out HB.out | exact Globs.below HG.out (by repeat (first | (with_reducible first | exact HB.out | apply below_alloc | apply pw_below_drewN | apply below_drew1) | exact HB.out)) | (repeat (first | exact HG.out | (with_reducible refine Globs.alloc ?_ _) | (with_reducible refine Globs.drewN ?_ _) | (with_reducible refine Globs.drew ?_)))); rintro e w8 ⟨rfl, hb⟩; have n0_ := Aside0.mk (below_step (by repeat (first | (with_reducible first | exact HB.out | apply below_alloc | apply pw_below_drewN | apply below_drew1) | exact HB.out)) hb); clear HB; have HB := n0_; clear n0_; (try clear hb); (try clear hb2); (try clear hk); (try clear hi)) | (go_at_call 13; (with_reducible refine (sect_Split.calls k _ _ l0 t246 t247 _ ?side3 ?side1 ?side2 A5.out).mono ?_); (case side1 => repeat (first | exact (Kd.C_below HR0.out HB.out) | (with_reducible refine Kd.C_alloc ?_ _) | (with_reducible refine Kd.C_drewN ?_ _) | (with_reducible refine Kd.C_drew ?_))); (case side2 => exact HC0.out); (case side3 => first | exact Globs.below HG.out HB.out | exact Globs.below HG.out (by repeat (first | (with_reducible first | exact HB.out | apply below_alloc | apply pw_below_drewN | apply below_drew1) | exact HB.out)) | (repeat (first | exact HG.out | (with_reducible refine Globs.alloc ?_ _) | (with_reducible refine Globs.drewN ?_ _) | (with_reducible refine Globs.drew ?_)))); rintro e w9 ⟨v248, rfl, ho0, hb⟩; have n0_ := Aside0.mk (Kd.S_lower ho0 (below_size (by repeat (first | (with_reducible first | exact HB.out | apply below_alloc | apply pw_below_drewN | apply below_drew1) | exact HB.out)))); have n1_ := Aside0.mk (below_step (by repeat (first | (with_reducible first | exact HB.out | apply below_alloc | apply pw_below_drewN | apply below_drew1) | exact HB.out)) hb); clear HB; have HO249 := n0_; have HB := n1_; clear n0_ n1_; (try clear hb); (try clear hb2); (try clear hk); (try clear hi); (try clear ho0); obtain ⟨Ao10, co10, eo10⟩ := Kd.S_slice HO249.out; subst eo10) | (go_at_call 11; (with_reducible refine (sect_Join.calls k _ _ t246 t250 t253 _ ?side3 ?side1 ?side2 A7.out).mono ?_); (case side1 => repeat (first | exact (Kd.S_reads' HO249.out).2.2 | (with_reducible refine Kd.C_alloc ?_ _) | (with_reducible refine Kd.C_drewN ?_ _) | (with_reducible refine Kd.C_drew ?_))); (case side2 => exact (Kd.S_reads' HO249.out).2.1); (case side3 => first | exact Globs.below HG.out HB.out | exact Globs.below HG.out (by repeat (first | (with_reducible first | exact HB.out | apply below_alloc | apply pw_below_drewN | apply below_drew1) | exact HB.out)) | (repeat (first | exact HG.out | (with_reducible refine Globs.alloc ?_ _) | (with_reducible refine Globs.drewN ?_ _) | (with_reducible refine Globs.drew ?_)))); rintro e w11 ⟨v251, rfl, ho0, hb⟩; have n0_ := Aside0.mk (Kd.S_below (by (with_reducible repeat (first | apply Kd.S_alloc | apply Kd.S_drewN | apply Kd.S_drew)); exact HO249.out) hb); have n1_ := Aside0.mk (Kd.V_lower (Kd.V_mono (ok' := fun k_ => some k_ ≠ (.slice Ao10 t246.length co10 : Value).ownBlock) ho0 (fun k_ hk_ => (Kd.fresh' (Kd.S_lt (by (with_reducible repeat (first | apply Kd.S_alloc | apply Kd.S_drewN | apply Kd.S_drew)); exact HO249.out)) k_ hk_))) (below_size (by repeat (first | (with_reducible first | exact HB.out | apply below_alloc | apply pw_below_drewN | apply below_drew1) | exact HB.out)))); have n2_ := Aside0.mk (below_step (by repeat (first | (with_reducible first | exact HB.out | apply below_alloc | apply pw_below_drewN | apply below_drew1) | exact HB.out)) hb); clear HO249; clear HB; have HO249 := n0_; have HO252 := n1_; have HB := n2_; clear n0_ n1_ n2_; (try clear hb); (try clear hb2); (try clear hk); (try clear hi); (try clear ho0))); try go_wp2_with (first | (go_at_call 9; (with_reducible refine (avocetlaw07_awake.calls k  t245 _ ?side1 A2.out).mono ?_); (case side1 => first | exact Globs.below HG.out HB.out | exact Globs.below HG.out (by repeat (first | (with_reducible first | exact HB.out | apply below_alloc | apply pw_below_drewN | apply below_drew1) | exact HB.out)) | (repeat (first | exact HG.out | (with_reducible refine Globs.alloc ?_ _) | (with_reducible refine Globs.drewN ?_ _) | (with_reducible refine Globs.drew ?_)))); rintro e w8 ⟨rfl, hb⟩; have n0_ := Aside0.mk (below_step (by repeat (first | (with_reducible first | exact HB.out | apply below_alloc | apply pw_below_drewN | apply below_drew1) | exact HB.out)) hb); clear HB; have HB := n0_; clear n0_; (try clear hb); (try clear hb2); (try clear hk); (try clear hi)) | (go_at_call 13; (with_reducible refine (sect_Split.calls k _ _ l0 t246 t247 _ ?side3 ?side1 ?side2 A5.out).mono ?_); (case side1 => repeat (first | exact (Kd.C_below HR0.out HB.out) | (with_reducible refine Kd.C_alloc ?_ _) | (with_reducible refine Kd.C_drewN ?_ _) | (with_reducible refine Kd.C_drew ?_))); (case side2 => exact HC0.out); (case side3 => first | exact Globs.below HG.out HB.out | exact Globs.below HG.out (by repeat (first | (with_reducible first | exact HB.out | apply below_alloc | apply pw_below_drewN | apply below_drew1) | exact HB.out)) | (repeat (first | exact HG.out | (with_reducible refine Globs.alloc ?_ _) | (with_reducible refine Globs.drewN ?_ _) | (with_reducible refine Globs.drew ?_)))); rintro e w9 ⟨v248, rfl, ho0, hb⟩; have n0_ := Aside0.mk (Kd.S_lower ho0 (below_size (by repeat (first | (with_reducible first | exact HB.out | apply below_alloc | apply pw_below_drewN | apply below_drew1) | exact HB.out)))); have n1_ := Aside0.mk (below_step (by repeat (first | (with_reducible first | exact HB.out | apply below_alloc | apply pw_below_drewN | apply below_drew1) | exact HB.out)) hb); clear HB; have HO249 := n0_; have HB := n1_; clear n0_ n1_; (try clear hb); (try clear hb2); (try clear hk); (try clear hi); (try clear ho0); obtain ⟨Ao10, co10, eo10⟩ := Kd.S_slice HO249.out; subst eo10) | (go_at_call 11; (with_reducible refine (sect_Join.calls k _ _ t246 t250 t253 _ ?side3 ?side1 ?side2 A7.out).mono ?_); (case side1 => repeat (first | exact (Kd.S_reads' HO249.out).2.2 | (with_reducible refine Kd.C_alloc ?_ _) | (with_reducible refine Kd.C_drewN ?_ _) | (with_reducible refine Kd.C_drew ?_))); (case side2 => exact (Kd.S_reads' HO249.out).2.1); (case side3 => first | exact Globs.below HG.out HB.out | exact Globs.below HG.out (by repeat (first | (with_reducible first | exact HB.out | apply below_alloc | apply pw_below_drewN | apply below_drew1) | exact HB.out)) | (repeat (first | exact HG.out | (with_reducible refine Globs.alloc ?_ _) | (with_reducible refine Globs.drewN ?_ _) | (with_reducible refine Globs.drew ?_)))); rintro e w11 ⟨v251, rfl, ho0, hb⟩; have n0_ := Aside0.mk (Kd.S_below (by (with_reducible repeat (first | apply Kd.S_alloc | apply Kd.S_drewN | apply Kd.S_drew)); exact HO249.out) hb); have n1_ := Aside0.mk (Kd.V_lower (Kd.V_mono (ok' := fun k_ => some k_ ≠ (.slice Ao10 t246.length co10 : Value).ownBlock) ho0 (fun k_ hk_ => (Kd.fresh' (Kd.S_lt (by (with_reducible repeat (first | apply Kd.S_alloc | apply Kd.S_drewN | apply Kd.S_drew)); exact HO249.out)) k_ hk_))) (below_size (by repeat (first | (with_reducible first | exact HB.out | apply below_alloc | apply pw_below_drewN | apply below_drew1) | exact HB.out)))); have n2_ := Aside0.mk (below_step (by repeat (first | (with_reducible first | exact HB.out | apply below_alloc | apply pw_below_drewN | apply below_drew1) | exact HB.out)) hb); clear HO249; clear HB; have HO249 := n0_; have HO252 := n1_; have HB := n2_; clear n0_ n1_ n2_; (try clear hb); (try clear hb2); (try clear hk); (try clear hi); (try clear ho0))))
      go_loopg [8] k (fun kq v8 w' => ∃ (x8_1 : Int), v8 = .int .i64 x8_1 ∧ Aside0 (avocetlaw07_SectTold.l0 kq l0 t245 t246 t250 t253 x8_1 = some r) ∧ Aside0 (kq ≤ k) ∧ Aside0 (Kd.S k38 38 w' w.heap.size (fun _ => True) (.slice Ao10 t246.length co10) t246) ∧ Aside0 (Kd.V (Kd.int .u8) 5 w' w.heap.size (fun k_ => some k_ ≠ ((.slice Ao10 t246.length co10) : Value).ownBlock) v251 t250) ∧ Aside0 (Below w.heap.size w w'))
      case atStart => exact ⟨(0), (by first | rfl | (simp; done) | (simp [*]; done)), H', ⟨Nat.le_refl _⟩, ⟨by (with_reducible repeat (first | apply Kd.S_alloc | apply Kd.S_drewN | apply Kd.S_drew)); exact HO249.out⟩, ⟨by (with_reducible repeat (first | apply Kd.V_alloc | apply Kd.V_drewN | apply Kd.V_drew)); exact HO252.out⟩, ⟨by repeat (first | (with_reducible first | exact HB.out | apply below_alloc | apply pw_below_drewN | apply below_drew1) | exact HB.out)⟩⟩
      case round =>
        clear H'
        try clear p2
        try clear c3
        try clear c3b0
        try clear c3b1
        try clear c6
        try clear c6b0
        try clear c6b1
        obtain ⟨x8_1, rfl, HA, HK1, HO_4, HO_6, HB⟩ := hrel
        cases gk with
        | zero => exact absurd HA.out (by simp [avocetlaw07_SectTold.l0])
        | succ k1 =>
          have H := HA.out
          clear HA
          simp only [avocetlaw07_SectTold.l0] at H
          by_cases c12 : x8_1 < (t246.length : Int)
          · rw [if_pos c12] at H
            have c12b0 : decide (x8_1 < (t246.length : Int)) = true := decide_eq_true c12
            clear c12
            by_cases c13 : 0 ≤ x8_1
            · rw [if_pos c13] at H
              have c13b0 : decide (0 ≤ x8_1) = true := decide_eq_true c13
              clear c13
              replace H := Option.bind_eq_some_iff.mp H
              obtain ⟨⟨t255, t258⟩, A140, H⟩ := H
              replace H : (if t258 = true then (if ((rd_T38 t246 x8_1).f0) > 0 then (if (strOfNums t255).toList = (strOfNums ((rd_T38 t246 x8_1).f1)).toList then (avocetlaw07_SectTold.l0 k1 l0 t245 t246 t250 t253 (wrap64 (x8_1 + 1))) else (some false)) else (avocetlaw07_SectTold.l0 k1 l0 t245 t246 t250 t253 (wrap64 (x8_1 + 1)))) else (some false)) = some r := H
              have A14 := Aside0.mk A140
              clear A140
              by_cases c15 : t258 = true
              · subst c15
                have H1 : (if ((rd_T38 t246 x8_1).f0) > 0 then (if (strOfNums t255).toList = (strOfNums ((rd_T38 t246 x8_1).f1)).toList then (avocetlaw07_SectTold.l0 k1 l0 t245 t246 t250 t253 (wrap64 (x8_1 + 1))) else (some false)) else (avocetlaw07_SectTold.l0 k1 l0 t245 t246 t250 t253 (wrap64 (x8_1 + 1)))) = some r := by rw [if_pos rfl] at H; exact H
                clear H
                have H := H1
                clear H1
                by_cases c16 : ((rd_T38 t246 x8_1).f0) > 0
                · rw [if_pos c16] at H
                  have c16b0 : decide (0 < ((rd_T38 t246 x8_1).f0)) = true := decide_eq_true c16
                  clear c16
                  by_cases c17 : (strOfNums t255).toList = (strOfNums ((rd_T38 t246 x8_1).f1)).toList
                  · rw [if_pos c17] at H
                    have c17b0 : ((strOfNums t255).toList == (strOfNums ((rd_T38 t246 x8_1).f1)).toList) = true := beq_iff_eq.mpr c17
                    have c17b1 : ((strOfNums t255).toList != (strOfNums ((rd_T38 t246 x8_1).f1)).toList) = false := bne_eq_false_iff_eq.mpr c17
                    clear c17
                    have H' := Aside0.mk H
                    clear H
                    have p254 : 0 ≤ (x8_1 : Int) := of_decide_eq_true (by first | (with_reducible assumption) | assumption)
                    have q254 : x8_1 < (t246.length : Int) := of_decide_eq_true (by first | (with_reducible assumption) | assumption)
                    obtain ⟨ad254, A254_1, c254_1, e254, hx254_0, hx254_1, hl254_1, hi254_1⟩ := at_T38 (Kd.S_reads' HO_4.out).2.2 x8_1 p254 q254
                    cases e254
                    obtain ⟨ce254, hce254, hMe254, hcc254⟩ := Kd.S_get HO_4.out z38 x8_1 p254 (by first | exact q254 | exact of_decide_eq_true (by first | (with_reducible assumption) | assumption) | (have e_ := (Kd.S_reads' HO_4.out).1; omega))
                    obtain ⟨ve254_1, rfl, ge254_1⟩ := k38_openM hMe254
                    have hv254_1 := hcc254 1 _ rfl
                    rw [add_field _ _ 1 (by omega)] at hv254_1
                    replace hv254_1 := Option.some.inj (hv254_1.symm.trans hx254_1)
                    rw [hv254_1] at ge254_1
                    have HL254_1 := Aside0.mk (show Kd.R (Kd.int .u8) 5 _ _ _ _ ((rd_T38 t246 x8_1).f1) from ge254_1)
                    clear hv254_1 ge254_1
                    clear hcc254 hce254
                    have HR254_1 := Aside0.mk hi254_1
                    have HC254_1 := Aside0.mk hl254_1
                    clear hi254_1 hl254_1
                    replace p254 := eq_true p254
                    replace q254 := eq_true q254
                    go_wp2_with (first | (go_at_call 17; (with_reducible refine (sect_Find.calls (fun k_ => True) _ _ t246 ((rd_T38 t246 x8_1).f0) t255 true _ ?side1 A14.out).mono ?_); (case side1 => exact Kd.S_V (HO_4.out)); rintro e w18 ⟨v256, rfl, ho0, hb⟩; have n0_ := Aside0.mk (Kd.S_below (by (with_reducible repeat (first | apply Kd.S_alloc | apply Kd.S_drewN | apply Kd.S_drew)); exact HO_4.out) hb); have n1_ := Aside0.mk (Kd.V_below (by (with_reducible repeat (first | apply Kd.V_alloc | apply Kd.V_drewN | apply Kd.V_drew)); exact HO_6.out) hb); have n2_ := Aside0.mk (Kd.R_below (by (with_reducible repeat (first | apply Kd.R_alloc | apply Kd.R_drewN | apply Kd.R_drew)); exact HL254_1.out) hb); have n3_ := Aside0.mk (Kd.V_lower (Kd.V_mono (ok' := fun k_ => True) ho0 (fun k_ hk_ => trivial)) (below_size (by repeat (first | (with_reducible first | exact HB.out | apply below_alloc | apply pw_below_drewN | apply below_drew1) | exact HB.out)))); have n4_ := Aside0.mk (Kd.C_below (by repeat (first | (with_reducible exact HR254_1.out) | (with_reducible refine Kd.C_alloc ?_ _) | (with_reducible refine Kd.C_drewN ?_ _) | (with_reducible refine Kd.C_drew ?_) | exact HR254_1.out)) hb); have n5_ := Aside0.mk (below_step (by repeat (first | (with_reducible first | exact HB.out | apply below_alloc | apply pw_below_drewN | apply below_drew1) | exact HB.out)) hb); clear HO_4; clear HO_6; clear HL254_1; clear HR254_1; clear HB; have HO_4 := n0_; have HO_6 := n1_; have HL254_1 := n2_; have HO257 := n3_; have HR254_1 := n4_; have HB := n5_; clear n0_ n1_ n2_ n3_ n4_ n5_; (try clear hb); (try clear hb2); (try clear hk); (try clear hi); (try clear ho0); have p259 : 0 ≤ (x8_1 : Int) := of_decide_eq_true (by first | (with_reducible assumption) | assumption); have q259 : x8_1 < (t246.length : Int) := of_decide_eq_true (by first | (with_reducible assumption) | assumption); obtain ⟨ad259, A259_1, c259_1, e259, hx259_0, hx259_1, hl259_1, hi259_1⟩ := at_T38 (Kd.S_reads' HO_4.out).2.2 x8_1 p259 q259; obtain rfl : ad254 = ad259 := (by injection e259); obtain ⟨ce259, hce259, hMe259, hcc259⟩ := Kd.S_get HO_4.out z38 x8_1 p259 (by first | exact q259 | exact of_decide_eq_true (by first | (with_reducible assumption) | assumption) | (have e_ := (Kd.S_reads' HO_4.out).1; omega)); obtain ⟨ve259_1, rfl, ge259_1⟩ := k38_openM hMe259; have hv259_1 := hcc259 1 _ rfl; rw [add_field _ _ 1 (by omega)] at hv259_1; replace hv259_1 := Option.some.inj (hv259_1.symm.trans hx259_1); rw [hv259_1] at ge259_1; have HL259_1 := Aside0.mk (show Kd.R (Kd.int .u8) 5 _ _ _ _ ((rd_T38 t246 x8_1).f1) from ge259_1); clear hv259_1 ge259_1; clear hcc259 hce259; have HR259_1 := Aside0.mk hi259_1; have HC259_1 := Aside0.mk hl259_1; clear hi259_1 hl259_1; replace p259 := eq_true p259; replace q259 := eq_true q259; have hcv19 := V_string (P := Tryd.prog) Tryd.underlying25 Tryd.underlying5 Tryd.underlying9 HO257.out; have hcw19 := fun (n_ : Nat) => V_string (P := Tryd.prog) Tryd.underlying25 Tryd.underlying5 Tryd.underlying9 (Kd.V_drewN HO257.out n_); have p260 : 0 ≤ (x8_1 : Int) := of_decide_eq_true (by first | (with_reducible assumption) | assumption); have q260 : x8_1 < (t246.length : Int) := of_decide_eq_true (by first | (with_reducible assumption) | assumption); obtain ⟨ad260, A260_1, c260_1, e260, hx260_0, hx260_1, hl260_1, hi260_1⟩ := at_T38 (Kd.S_reads' HO_4.out).2.2 x8_1 p260 q260; obtain rfl : ad254 = ad260 := (by injection e260); obtain ⟨ce260, hce260, hMe260, hcc260⟩ := Kd.S_get HO_4.out z38 x8_1 p260 (by first | exact q260 | exact of_decide_eq_true (by first | (with_reducible assumption) | assumption) | (have e_ := (Kd.S_reads' HO_4.out).1; omega)); obtain ⟨ve260_1, rfl, ge260_1⟩ := k38_openM hMe260; have hv260_1 := hcc260 1 _ rfl; rw [add_field _ _ 1 (by omega)] at hv260_1; replace hv260_1 := Option.some.inj (hv260_1.symm.trans hx260_1); rw [hv260_1] at ge260_1; have HL260_1 := Aside0.mk (show Kd.R (Kd.int .u8) 5 _ _ _ _ ((rd_T38 t246 x8_1).f1) from ge260_1); clear hv260_1 ge260_1; clear hcc260 hce260; have HR260_1 := Aside0.mk hi260_1; have HC260_1 := Aside0.mk hl260_1; clear hi260_1 hl260_1; replace p260 := eq_true p260; replace q260 := eq_true q260; have ea_ := Option.some.inj (hx259_1.symm.trans hx260_1); injection ea_ with ea_ en_ ec_; subst ea_; subst ec_; clear en_; have hcv20 := Kd.C_string (P := Tryd.prog) (A := A259_1) (c := c259_1) Tryd.underlying25 Tryd.underlying5 Tryd.underlying9 (by repeat (first | (with_reducible exact HR260_1.out) | (with_reducible refine Kd.C_alloc ?_ _) | (with_reducible refine Kd.C_drewN ?_ _) | (with_reducible refine Kd.C_drew ?_) | exact HR260_1.out)); have hcw20 := fun (n_ : Nat) => Kd.C_string (P := Tryd.prog) (A := A259_1) (c := c259_1) Tryd.underlying25 Tryd.underlying5 Tryd.underlying9 (Kd.C_drewN (by repeat (first | (with_reducible exact HR260_1.out) | (with_reducible refine Kd.C_alloc ?_ _) | (with_reducible refine Kd.C_drewN ?_ _) | (with_reducible refine Kd.C_drew ?_) | exact HR260_1.out)) n_)))
                    repeat (go_quiet (first | (go_at_call 17; (with_reducible refine (sect_Find.calls (fun k_ => True) _ _ t246 ((rd_T38 t246 x8_1).f0) t255 true _ ?side1 A14.out).mono ?_); (case side1 => exact Kd.S_V (HO_4.out)); rintro e w18 ⟨v256, rfl, ho0, hb⟩; have n0_ := Aside0.mk (Kd.S_below (by (with_reducible repeat (first | apply Kd.S_alloc | apply Kd.S_drewN | apply Kd.S_drew)); exact HO_4.out) hb); have n1_ := Aside0.mk (Kd.V_below (by (with_reducible repeat (first | apply Kd.V_alloc | apply Kd.V_drewN | apply Kd.V_drew)); exact HO_6.out) hb); have n2_ := Aside0.mk (Kd.R_below (by (with_reducible repeat (first | apply Kd.R_alloc | apply Kd.R_drewN | apply Kd.R_drew)); exact HL254_1.out) hb); have n3_ := Aside0.mk (Kd.V_lower (Kd.V_mono (ok' := fun k_ => True) ho0 (fun k_ hk_ => trivial)) (below_size (by repeat (first | (with_reducible first | exact HB.out | apply below_alloc | apply pw_below_drewN | apply below_drew1) | exact HB.out)))); have n4_ := Aside0.mk (Kd.C_below (by repeat (first | (with_reducible exact HR254_1.out) | (with_reducible refine Kd.C_alloc ?_ _) | (with_reducible refine Kd.C_drewN ?_ _) | (with_reducible refine Kd.C_drew ?_) | exact HR254_1.out)) hb); have n5_ := Aside0.mk (below_step (by repeat (first | (with_reducible first | exact HB.out | apply below_alloc | apply pw_below_drewN | apply below_drew1) | exact HB.out)) hb); clear HO_4; clear HO_6; clear HL254_1; clear HR254_1; clear HB; have HO_4 := n0_; have HO_6 := n1_; have HL254_1 := n2_; have HO257 := n3_; have HR254_1 := n4_; have HB := n5_; clear n0_ n1_ n2_ n3_ n4_ n5_; (try clear hb); (try clear hb2); (try clear hk); (try clear hi); (try clear ho0); have p259 : 0 ≤ (x8_1 : Int) := of_decide_eq_true (by first | (with_reducible assumption) | assumption); have q259 : x8_1 < (t246.length : Int) := of_decide_eq_true (by first | (with_reducible assumption) | assumption); obtain ⟨ad259, A259_1, c259_1, e259, hx259_0, hx259_1, hl259_1, hi259_1⟩ := at_T38 (Kd.S_reads' HO_4.out).2.2 x8_1 p259 q259; obtain rfl : ad254 = ad259 := (by injection e259); obtain ⟨ce259, hce259, hMe259, hcc259⟩ := Kd.S_get HO_4.out z38 x8_1 p259 (by first | exact q259 | exact of_decide_eq_true (by first | (with_reducible assumption) | assumption) | (have e_ := (Kd.S_reads' HO_4.out).1; omega)); obtain ⟨ve259_1, rfl, ge259_1⟩ := k38_openM hMe259; have hv259_1 := hcc259 1 _ rfl; rw [add_field _ _ 1 (by omega)] at hv259_1; replace hv259_1 := Option.some.inj (hv259_1.symm.trans hx259_1); rw [hv259_1] at ge259_1; have HL259_1 := Aside0.mk (show Kd.R (Kd.int .u8) 5 _ _ _ _ ((rd_T38 t246 x8_1).f1) from ge259_1); clear hv259_1 ge259_1; clear hcc259 hce259; have HR259_1 := Aside0.mk hi259_1; have HC259_1 := Aside0.mk hl259_1; clear hi259_1 hl259_1; replace p259 := eq_true p259; replace q259 := eq_true q259; have hcv19 := V_string (P := Tryd.prog) Tryd.underlying25 Tryd.underlying5 Tryd.underlying9 HO257.out; have hcw19 := fun (n_ : Nat) => V_string (P := Tryd.prog) Tryd.underlying25 Tryd.underlying5 Tryd.underlying9 (Kd.V_drewN HO257.out n_); have p260 : 0 ≤ (x8_1 : Int) := of_decide_eq_true (by first | (with_reducible assumption) | assumption); have q260 : x8_1 < (t246.length : Int) := of_decide_eq_true (by first | (with_reducible assumption) | assumption); obtain ⟨ad260, A260_1, c260_1, e260, hx260_0, hx260_1, hl260_1, hi260_1⟩ := at_T38 (Kd.S_reads' HO_4.out).2.2 x8_1 p260 q260; obtain rfl : ad254 = ad260 := (by injection e260); obtain ⟨ce260, hce260, hMe260, hcc260⟩ := Kd.S_get HO_4.out z38 x8_1 p260 (by first | exact q260 | exact of_decide_eq_true (by first | (with_reducible assumption) | assumption) | (have e_ := (Kd.S_reads' HO_4.out).1; omega)); obtain ⟨ve260_1, rfl, ge260_1⟩ := k38_openM hMe260; have hv260_1 := hcc260 1 _ rfl; rw [add_field _ _ 1 (by omega)] at hv260_1; replace hv260_1 := Option.some.inj (hv260_1.symm.trans hx260_1); rw [hv260_1] at ge260_1; have HL260_1 := Aside0.mk (show Kd.R (Kd.int .u8) 5 _ _ _ _ ((rd_T38 t246 x8_1).f1) from ge260_1); clear hv260_1 ge260_1; clear hcc260 hce260; have HR260_1 := Aside0.mk hi260_1; have HC260_1 := Aside0.mk hl260_1; clear hi260_1 hl260_1; replace p260 := eq_true p260; replace q260 := eq_true q260; have ea_ := Option.some.inj (hx259_1.symm.trans hx260_1); injection ea_ with ea_ en_ ec_; subst ea_; subst ec_; clear en_; have hcv20 := Kd.C_string (P := Tryd.prog) (A := A259_1) (c := c259_1) Tryd.underlying25 Tryd.underlying5 Tryd.underlying9 (by repeat (first | (with_reducible exact HR260_1.out) | (with_reducible refine Kd.C_alloc ?_ _) | (with_reducible refine Kd.C_drewN ?_ _) | (with_reducible refine Kd.C_drew ?_) | exact HR260_1.out)); have hcw20 := fun (n_ : Nat) => Kd.C_string (P := Tryd.prog) (A := A259_1) (c := c259_1) Tryd.underlying25 Tryd.underlying5 Tryd.underlying9 (Kd.C_drewN (by repeat (first | (with_reducible exact HR260_1.out) | (with_reducible refine Kd.C_alloc ?_ _) | (with_reducible refine Kd.C_drewN ?_ _) | (with_reducible refine Kd.C_drew ?_) | exact HR260_1.out)) n_))); try go_wp2_with (first | (go_at_call 17; (with_reducible refine (sect_Find.calls (fun k_ => True) _ _ t246 ((rd_T38 t246 x8_1).f0) t255 true _ ?side1 A14.out).mono ?_); (case side1 => exact Kd.S_V (HO_4.out)); rintro e w18 ⟨v256, rfl, ho0, hb⟩; have n0_ := Aside0.mk (Kd.S_below (by (with_reducible repeat (first | apply Kd.S_alloc | apply Kd.S_drewN | apply Kd.S_drew)); exact HO_4.out) hb); have n1_ := Aside0.mk (Kd.V_below (by (with_reducible repeat (first | apply Kd.V_alloc | apply Kd.V_drewN | apply Kd.V_drew)); exact HO_6.out) hb); have n2_ := Aside0.mk (Kd.R_below (by (with_reducible repeat (first | apply Kd.R_alloc | apply Kd.R_drewN | apply Kd.R_drew)); exact HL254_1.out) hb); have n3_ := Aside0.mk (Kd.V_lower (Kd.V_mono (ok' := fun k_ => True) ho0 (fun k_ hk_ => trivial)) (below_size (by repeat (first | (with_reducible first | exact HB.out | apply below_alloc | apply pw_below_drewN | apply below_drew1) | exact HB.out)))); have n4_ := Aside0.mk (Kd.C_below (by repeat (first | (with_reducible exact HR254_1.out) | (with_reducible refine Kd.C_alloc ?_ _) | (with_reducible refine Kd.C_drewN ?_ _) | (with_reducible refine Kd.C_drew ?_) | exact HR254_1.out)) hb); have n5_ := Aside0.mk (below_step (by repeat (first | (with_reducible first | exact HB.out | apply below_alloc | apply pw_below_drewN | apply below_drew1) | exact HB.out)) hb); clear HO_4; clear HO_6; clear HL254_1; clear HR254_1; clear HB; have HO_4 := n0_; have HO_6 := n1_; have HL254_1 := n2_; have HO257 := n3_; have HR254_1 := n4_; have HB := n5_; clear n0_ n1_ n2_ n3_ n4_ n5_; (try clear hb); (try clear hb2); (try clear hk); (try clear hi); (try clear ho0); have p259 : 0 ≤ (x8_1 : Int) := of_decide_eq_true (by first | (with_reducible assumption) | assumption); have q259 : x8_1 < (t246.length : Int) := of_decide_eq_true (by first | (with_reducible assumption) | assumption); obtain ⟨ad259, A259_1, c259_1, e259, hx259_0, hx259_1, hl259_1, hi259_1⟩ := at_T38 (Kd.S_reads' HO_4.out).2.2 x8_1 p259 q259; obtain rfl : ad254 = ad259 := (by injection e259); obtain ⟨ce259, hce259, hMe259, hcc259⟩ := Kd.S_get HO_4.out z38 x8_1 p259 (by first | exact q259 | exact of_decide_eq_true (by first | (with_reducible assumption) | assumption) | (have e_ := (Kd.S_reads' HO_4.out).1; omega)); obtain ⟨ve259_1, rfl, ge259_1⟩ := k38_openM hMe259; have hv259_1 := hcc259 1 _ rfl; rw [add_field _ _ 1 (by omega)] at hv259_1; replace hv259_1 := Option.some.inj (hv259_1.symm.trans hx259_1); rw [hv259_1] at ge259_1; have HL259_1 := Aside0.mk (show Kd.R (Kd.int .u8) 5 _ _ _ _ ((rd_T38 t246 x8_1).f1) from ge259_1); clear hv259_1 ge259_1; clear hcc259 hce259; have HR259_1 := Aside0.mk hi259_1; have HC259_1 := Aside0.mk hl259_1; clear hi259_1 hl259_1; replace p259 := eq_true p259; replace q259 := eq_true q259; have hcv19 := V_string (P := Tryd.prog) Tryd.underlying25 Tryd.underlying5 Tryd.underlying9 HO257.out; have hcw19 := fun (n_ : Nat) => V_string (P := Tryd.prog) Tryd.underlying25 Tryd.underlying5 Tryd.underlying9 (Kd.V_drewN HO257.out n_); have p260 : 0 ≤ (x8_1 : Int) := of_decide_eq_true (by first | (with_reducible assumption) | assumption); have q260 : x8_1 < (t246.length : Int) := of_decide_eq_true (by first | (with_reducible assumption) | assumption); obtain ⟨ad260, A260_1, c260_1, e260, hx260_0, hx260_1, hl260_1, hi260_1⟩ := at_T38 (Kd.S_reads' HO_4.out).2.2 x8_1 p260 q260; obtain rfl : ad254 = ad260 := (by injection e260); obtain ⟨ce260, hce260, hMe260, hcc260⟩ := Kd.S_get HO_4.out z38 x8_1 p260 (by first | exact q260 | exact of_decide_eq_true (by first | (with_reducible assumption) | assumption) | (have e_ := (Kd.S_reads' HO_4.out).1; omega)); obtain ⟨ve260_1, rfl, ge260_1⟩ := k38_openM hMe260; have hv260_1 := hcc260 1 _ rfl; rw [add_field _ _ 1 (by omega)] at hv260_1; replace hv260_1 := Option.some.inj (hv260_1.symm.trans hx260_1); rw [hv260_1] at ge260_1; have HL260_1 := Aside0.mk (show Kd.R (Kd.int .u8) 5 _ _ _ _ ((rd_T38 t246 x8_1).f1) from ge260_1); clear hv260_1 ge260_1; clear hcc260 hce260; have HR260_1 := Aside0.mk hi260_1; have HC260_1 := Aside0.mk hl260_1; clear hi260_1 hl260_1; replace p260 := eq_true p260; replace q260 := eq_true q260; have ea_ := Option.some.inj (hx259_1.symm.trans hx260_1); injection ea_ with ea_ en_ ec_; subst ea_; subst ec_; clear en_; have hcv20 := Kd.C_string (P := Tryd.prog) (A := A259_1) (c := c259_1) Tryd.underlying25 Tryd.underlying5 Tryd.underlying9 (by repeat (first | (with_reducible exact HR260_1.out) | (with_reducible refine Kd.C_alloc ?_ _) | (with_reducible refine Kd.C_drewN ?_ _) | (with_reducible refine Kd.C_drew ?_) | exact HR260_1.out)); have hcw20 := fun (n_ : Nat) => Kd.C_string (P := Tryd.prog) (A := A259_1) (c := c259_1) Tryd.underlying25 Tryd.underlying5 Tryd.underlying9 (Kd.C_drewN (by repeat (first | (with_reducible exact HR260_1.out) | (with_reducible refine Kd.C_alloc ?_ _) | (with_reducible refine Kd.C_drewN ?_ _) | (with_reducible refine Kd.C_drew ?_) | exact HR260_1.out)) n_))))
                    go_roundg k1
                    case measure => have := HK1.out; omega
                    case rel => exact ⟨(wrap64 (x8_1 + 1)), (by first | rfl | (simp; done) | (simp [*]; done)), H', ⟨by have := HK1.out; omega⟩, ⟨by (with_reducible repeat (first | apply Kd.S_alloc | apply Kd.S_drewN | apply Kd.S_drew)); exact HO_4.out⟩, ⟨by (with_reducible repeat (first | apply Kd.V_alloc | apply Kd.V_drewN | apply Kd.V_drew)); exact HO_6.out⟩, ⟨by repeat (first | (with_reducible first | exact HB.out | apply below_alloc | apply pw_below_drewN | apply below_drew1) | exact HB.out)⟩⟩
                  · rw [if_neg c17] at H
                    have c17b0 : ((strOfNums t255).toList == (strOfNums ((rd_T38 t246 x8_1).f1)).toList) = false := beq_eq_false_iff_ne.mpr c17
                    have c17b1 : ((strOfNums t255).toList != (strOfNums ((rd_T38 t246 x8_1).f1)).toList) = true := bne_iff_ne.mpr c17
                    exact absurd ((Option.some.inj H).trans HRT_.out) (by decide)
                · rw [if_neg c16] at H
                  have c16b0 : decide (0 < ((rd_T38 t246 x8_1).f0)) = false := decide_eq_false c16
                  clear c16
                  have H' := Aside0.mk H
                  clear H
                  have p254 : 0 ≤ (x8_1 : Int) := of_decide_eq_true (by first | (with_reducible assumption) | assumption)
                  have q254 : x8_1 < (t246.length : Int) := of_decide_eq_true (by first | (with_reducible assumption) | assumption)
                  obtain ⟨ad254, A254_1, c254_1, e254, hx254_0, hx254_1, hl254_1, hi254_1⟩ := at_T38 (Kd.S_reads' HO_4.out).2.2 x8_1 p254 q254
                  cases e254
                  obtain ⟨ce254, hce254, hMe254, hcc254⟩ := Kd.S_get HO_4.out z38 x8_1 p254 (by first | exact q254 | exact of_decide_eq_true (by first | (with_reducible assumption) | assumption) | (have e_ := (Kd.S_reads' HO_4.out).1; omega))
                  obtain ⟨ve254_1, rfl, ge254_1⟩ := k38_openM hMe254
                  have hv254_1 := hcc254 1 _ rfl
                  rw [add_field _ _ 1 (by omega)] at hv254_1
                  replace hv254_1 := Option.some.inj (hv254_1.symm.trans hx254_1)
                  rw [hv254_1] at ge254_1
                  have HL254_1 := Aside0.mk (show Kd.R (Kd.int .u8) 5 _ _ _ _ ((rd_T38 t246 x8_1).f1) from ge254_1)
                  clear hv254_1 ge254_1
                  clear hcc254 hce254
                  have HR254_1 := Aside0.mk hi254_1
                  have HC254_1 := Aside0.mk hl254_1
                  clear hi254_1 hl254_1
                  replace p254 := eq_true p254
                  replace q254 := eq_true q254
                  go_wp2_with (first | (go_at_call 17; (with_reducible refine (sect_Find.calls (fun k_ => True) _ _ t246 ((rd_T38 t246 x8_1).f0) t255 true _ ?side1 A14.out).mono ?_); (case side1 => exact Kd.S_V (HO_4.out)); rintro e w21 ⟨v256, rfl, ho0, hb⟩; have n0_ := Aside0.mk (Kd.S_below (by (with_reducible repeat (first | apply Kd.S_alloc | apply Kd.S_drewN | apply Kd.S_drew)); exact HO_4.out) hb); have n1_ := Aside0.mk (Kd.V_below (by (with_reducible repeat (first | apply Kd.V_alloc | apply Kd.V_drewN | apply Kd.V_drew)); exact HO_6.out) hb); have n2_ := Aside0.mk (Kd.R_below (by (with_reducible repeat (first | apply Kd.R_alloc | apply Kd.R_drewN | apply Kd.R_drew)); exact HL254_1.out) hb); have n3_ := Aside0.mk (Kd.V_lower (Kd.V_mono (ok' := fun k_ => True) ho0 (fun k_ hk_ => trivial)) (below_size (by repeat (first | (with_reducible first | exact HB.out | apply below_alloc | apply pw_below_drewN | apply below_drew1) | exact HB.out)))); have n4_ := Aside0.mk (Kd.C_below (by repeat (first | (with_reducible exact HR254_1.out) | (with_reducible refine Kd.C_alloc ?_ _) | (with_reducible refine Kd.C_drewN ?_ _) | (with_reducible refine Kd.C_drew ?_) | exact HR254_1.out)) hb); have n5_ := Aside0.mk (below_step (by repeat (first | (with_reducible first | exact HB.out | apply below_alloc | apply pw_below_drewN | apply below_drew1) | exact HB.out)) hb); clear HO_4; clear HO_6; clear HL254_1; clear HR254_1; clear HB; have HO_4 := n0_; have HO_6 := n1_; have HL254_1 := n2_; have HO257 := n3_; have HR254_1 := n4_; have HB := n5_; clear n0_ n1_ n2_ n3_ n4_ n5_; (try clear hb); (try clear hb2); (try clear hk); (try clear hi); (try clear ho0); have p259 : 0 ≤ (x8_1 : Int) := of_decide_eq_true (by first | (with_reducible assumption) | assumption); have q259 : x8_1 < (t246.length : Int) := of_decide_eq_true (by first | (with_reducible assumption) | assumption); obtain ⟨ad259, A259_1, c259_1, e259, hx259_0, hx259_1, hl259_1, hi259_1⟩ := at_T38 (Kd.S_reads' HO_4.out).2.2 x8_1 p259 q259; obtain rfl : ad254 = ad259 := (by injection e259); obtain ⟨ce259, hce259, hMe259, hcc259⟩ := Kd.S_get HO_4.out z38 x8_1 p259 (by first | exact q259 | exact of_decide_eq_true (by first | (with_reducible assumption) | assumption) | (have e_ := (Kd.S_reads' HO_4.out).1; omega)); obtain ⟨ve259_1, rfl, ge259_1⟩ := k38_openM hMe259; have hv259_1 := hcc259 1 _ rfl; rw [add_field _ _ 1 (by omega)] at hv259_1; replace hv259_1 := Option.some.inj (hv259_1.symm.trans hx259_1); rw [hv259_1] at ge259_1; have HL259_1 := Aside0.mk (show Kd.R (Kd.int .u8) 5 _ _ _ _ ((rd_T38 t246 x8_1).f1) from ge259_1); clear hv259_1 ge259_1; clear hcc259 hce259; have HR259_1 := Aside0.mk hi259_1; have HC259_1 := Aside0.mk hl259_1; clear hi259_1 hl259_1; replace p259 := eq_true p259; replace q259 := eq_true q259))
                  repeat (go_quiet (first | (go_at_call 17; (with_reducible refine (sect_Find.calls (fun k_ => True) _ _ t246 ((rd_T38 t246 x8_1).f0) t255 true _ ?side1 A14.out).mono ?_); (case side1 => exact Kd.S_V (HO_4.out)); rintro e w21 ⟨v256, rfl, ho0, hb⟩; have n0_ := Aside0.mk (Kd.S_below (by (with_reducible repeat (first | apply Kd.S_alloc | apply Kd.S_drewN | apply Kd.S_drew)); exact HO_4.out) hb); have n1_ := Aside0.mk (Kd.V_below (by (with_reducible repeat (first | apply Kd.V_alloc | apply Kd.V_drewN | apply Kd.V_drew)); exact HO_6.out) hb); have n2_ := Aside0.mk (Kd.R_below (by (with_reducible repeat (first | apply Kd.R_alloc | apply Kd.R_drewN | apply Kd.R_drew)); exact HL254_1.out) hb); have n3_ := Aside0.mk (Kd.V_lower (Kd.V_mono (ok' := fun k_ => True) ho0 (fun k_ hk_ => trivial)) (below_size (by repeat (first | (with_reducible first | exact HB.out | apply below_alloc | apply pw_below_drewN | apply below_drew1) | exact HB.out)))); have n4_ := Aside0.mk (Kd.C_below (by repeat (first | (with_reducible exact HR254_1.out) | (with_reducible refine Kd.C_alloc ?_ _) | (with_reducible refine Kd.C_drewN ?_ _) | (with_reducible refine Kd.C_drew ?_) | exact HR254_1.out)) hb); have n5_ := Aside0.mk (below_step (by repeat (first | (with_reducible first | exact HB.out | apply below_alloc | apply pw_below_drewN | apply below_drew1) | exact HB.out)) hb); clear HO_4; clear HO_6; clear HL254_1; clear HR254_1; clear HB; have HO_4 := n0_; have HO_6 := n1_; have HL254_1 := n2_; have HO257 := n3_; have HR254_1 := n4_; have HB := n5_; clear n0_ n1_ n2_ n3_ n4_ n5_; (try clear hb); (try clear hb2); (try clear hk); (try clear hi); (try clear ho0); have p259 : 0 ≤ (x8_1 : Int) := of_decide_eq_true (by first | (with_reducible assumption) | assumption); have q259 : x8_1 < (t246.length : Int) := of_decide_eq_true (by first | (with_reducible assumption) | assumption); obtain ⟨ad259, A259_1, c259_1, e259, hx259_0, hx259_1, hl259_1, hi259_1⟩ := at_T38 (Kd.S_reads' HO_4.out).2.2 x8_1 p259 q259; obtain rfl : ad254 = ad259 := (by injection e259); obtain ⟨ce259, hce259, hMe259, hcc259⟩ := Kd.S_get HO_4.out z38 x8_1 p259 (by first | exact q259 | exact of_decide_eq_true (by first | (with_reducible assumption) | assumption) | (have e_ := (Kd.S_reads' HO_4.out).1; omega)); obtain ⟨ve259_1, rfl, ge259_1⟩ := k38_openM hMe259; have hv259_1 := hcc259 1 _ rfl; rw [add_field _ _ 1 (by omega)] at hv259_1; replace hv259_1 := Option.some.inj (hv259_1.symm.trans hx259_1); rw [hv259_1] at ge259_1; have HL259_1 := Aside0.mk (show Kd.R (Kd.int .u8) 5 _ _ _ _ ((rd_T38 t246 x8_1).f1) from ge259_1); clear hv259_1 ge259_1; clear hcc259 hce259; have HR259_1 := Aside0.mk hi259_1; have HC259_1 := Aside0.mk hl259_1; clear hi259_1 hl259_1; replace p259 := eq_true p259; replace q259 := eq_true q259)); try go_wp2_with (first | (go_at_call 17; (with_reducible refine (sect_Find.calls (fun k_ => True) _ _ t246 ((rd_T38 t246 x8_1).f0) t255 true _ ?side1 A14.out).mono ?_); (case side1 => exact Kd.S_V (HO_4.out)); rintro e w21 ⟨v256, rfl, ho0, hb⟩; have n0_ := Aside0.mk (Kd.S_below (by (with_reducible repeat (first | apply Kd.S_alloc | apply Kd.S_drewN | apply Kd.S_drew)); exact HO_4.out) hb); have n1_ := Aside0.mk (Kd.V_below (by (with_reducible repeat (first | apply Kd.V_alloc | apply Kd.V_drewN | apply Kd.V_drew)); exact HO_6.out) hb); have n2_ := Aside0.mk (Kd.R_below (by (with_reducible repeat (first | apply Kd.R_alloc | apply Kd.R_drewN | apply Kd.R_drew)); exact HL254_1.out) hb); have n3_ := Aside0.mk (Kd.V_lower (Kd.V_mono (ok' := fun k_ => True) ho0 (fun k_ hk_ => trivial)) (below_size (by repeat (first | (with_reducible first | exact HB.out | apply below_alloc | apply pw_below_drewN | apply below_drew1) | exact HB.out)))); have n4_ := Aside0.mk (Kd.C_below (by repeat (first | (with_reducible exact HR254_1.out) | (with_reducible refine Kd.C_alloc ?_ _) | (with_reducible refine Kd.C_drewN ?_ _) | (with_reducible refine Kd.C_drew ?_) | exact HR254_1.out)) hb); have n5_ := Aside0.mk (below_step (by repeat (first | (with_reducible first | exact HB.out | apply below_alloc | apply pw_below_drewN | apply below_drew1) | exact HB.out)) hb); clear HO_4; clear HO_6; clear HL254_1; clear HR254_1; clear HB; have HO_4 := n0_; have HO_6 := n1_; have HL254_1 := n2_; have HO257 := n3_; have HR254_1 := n4_; have HB := n5_; clear n0_ n1_ n2_ n3_ n4_ n5_; (try clear hb); (try clear hb2); (try clear hk); (try clear hi); (try clear ho0); have p259 : 0 ≤ (x8_1 : Int) := of_decide_eq_true (by first | (with_reducible assumption) | assumption); have q259 : x8_1 < (t246.length : Int) := of_decide_eq_true (by first | (with_reducible assumption) | assumption); obtain ⟨ad259, A259_1, c259_1, e259, hx259_0, hx259_1, hl259_1, hi259_1⟩ := at_T38 (Kd.S_reads' HO_4.out).2.2 x8_1 p259 q259; obtain rfl : ad254 = ad259 := (by injection e259); obtain ⟨ce259, hce259, hMe259, hcc259⟩ := Kd.S_get HO_4.out z38 x8_1 p259 (by first | exact q259 | exact of_decide_eq_true (by first | (with_reducible assumption) | assumption) | (have e_ := (Kd.S_reads' HO_4.out).1; omega)); obtain ⟨ve259_1, rfl, ge259_1⟩ := k38_openM hMe259; have hv259_1 := hcc259 1 _ rfl; rw [add_field _ _ 1 (by omega)] at hv259_1; replace hv259_1 := Option.some.inj (hv259_1.symm.trans hx259_1); rw [hv259_1] at ge259_1; have HL259_1 := Aside0.mk (show Kd.R (Kd.int .u8) 5 _ _ _ _ ((rd_T38 t246 x8_1).f1) from ge259_1); clear hv259_1 ge259_1; clear hcc259 hce259; have HR259_1 := Aside0.mk hi259_1; have HC259_1 := Aside0.mk hl259_1; clear hi259_1 hl259_1; replace p259 := eq_true p259; replace q259 := eq_true q259)))
                  go_roundg k1
                  case measure => have := HK1.out; omega
                  case rel => exact ⟨(wrap64 (x8_1 + 1)), (by first | rfl | (simp; done) | (simp [*]; done)), H', ⟨by have := HK1.out; omega⟩, ⟨by (with_reducible repeat (first | apply Kd.S_alloc | apply Kd.S_drewN | apply Kd.S_drew)); exact HO_4.out⟩, ⟨by (with_reducible repeat (first | apply Kd.V_alloc | apply Kd.V_drewN | apply Kd.V_drew)); exact HO_6.out⟩, ⟨by repeat (first | (with_reducible first | exact HB.out | apply below_alloc | apply pw_below_drewN | apply below_drew1) | exact HB.out)⟩⟩
              · replace c15 := Bool.eq_false_iff.mpr c15
                subst c15
                have H1 : (some false) = some r := by rw [if_neg (show ¬ (false = true) by decide)] at H; exact H
                clear H
                have H := H1
                clear H1
                exact absurd ((Option.some.inj H).trans HRT_.out) (by decide)
            · rw [if_neg c13] at H
              exact absurd H (by simp)
          · rw [if_neg c12] at H
            have c12b0 : decide (x8_1 < (t246.length : Int)) = false := decide_eq_false c12
            clear c12
            replace H := Option.bind_eq_some_iff.mp H
            obtain ⟨⟨t261, t264⟩, A220, H⟩ := H
            replace H : (if t245 = true then (if t253 = 0 then (if (t250.length : Int) ≤ (l0.length : Int) then (some (!t264)) else (some false)) else (some false)) else (some false)) = some r := H
            have A22 := Aside0.mk A220
            clear A220
            by_cases c23 : t245 = true
            · subst c23
              have H1 : (if t253 = 0 then (if (t250.length : Int) ≤ (l0.length : Int) then (some (!t264)) else (some false)) else (some false)) = some r := by rw [if_pos rfl] at H; exact H
              clear H
              have H := H1
              clear H1
              by_cases c24 : t253 = 0
              · rw [if_pos c24] at H
                have c24b0 : (t253 == 0) = true := beq_iff_eq.mpr c24
                have c24b1 : (t253 != 0) = false := bne_eq_false_iff_eq.mpr c24
                clear c24
                by_cases c25 : (t250.length : Int) ≤ (l0.length : Int)
                · rw [if_pos c25] at H
                  have c25b0 : decide ((t250.length : Int) ≤ (l0.length : Int)) = true := decide_eq_true c25
                  have c25b1 : decide (t250.length ≤ l0.length) = true := decide_eq_true (Int.ofNat_le.mp c25)
                  clear c25
                  obtain rfl := Option.some.inj H
                  go_wp2_with (first | (go_at_call 17; (with_reducible refine (sect_Find.calls (fun k_ => True) _ _ t246 12 t261 t264 _ ?side1 A22.out).mono ?_); (case side1 => exact Kd.S_V (HO_4.out)); rintro e w26 ⟨v262, rfl, ho0, hb⟩; have n0_ := Aside0.mk (Kd.S_below (by (with_reducible repeat (first | apply Kd.S_alloc | apply Kd.S_drewN | apply Kd.S_drew)); exact HO_4.out) hb); have n1_ := Aside0.mk (Kd.V_below (by (with_reducible repeat (first | apply Kd.V_alloc | apply Kd.V_drewN | apply Kd.V_drew)); exact HO_6.out) hb); have n2_ := Aside0.mk (Kd.V_lower (Kd.V_mono (ok' := fun k_ => True) ho0 (fun k_ hk_ => trivial)) (below_size (by repeat (first | (with_reducible first | exact HB.out | apply below_alloc | apply pw_below_drewN | apply below_drew1) | exact HB.out)))); have n3_ := Aside0.mk (below_step (by repeat (first | (with_reducible first | exact HB.out | apply below_alloc | apply pw_below_drewN | apply below_drew1) | exact HB.out)) hb); clear HO_4; clear HO_6; clear HB; have HO_4 := n0_; have HO_6 := n1_; have HO263 := n2_; have HB := n3_; clear n0_ n1_ n2_ n3_; (try clear hb); (try clear hb2); (try clear hk); (try clear hi); (try clear ho0); obtain ⟨Ao27, co27, eo27⟩ := Kd.V_slice HO_6.out; subst eo27))
                  repeat (go_quiet (first | (go_at_call 17; (with_reducible refine (sect_Find.calls (fun k_ => True) _ _ t246 12 t261 t264 _ ?side1 A22.out).mono ?_); (case side1 => exact Kd.S_V (HO_4.out)); rintro e w26 ⟨v262, rfl, ho0, hb⟩; have n0_ := Aside0.mk (Kd.S_below (by (with_reducible repeat (first | apply Kd.S_alloc | apply Kd.S_drewN | apply Kd.S_drew)); exact HO_4.out) hb); have n1_ := Aside0.mk (Kd.V_below (by (with_reducible repeat (first | apply Kd.V_alloc | apply Kd.V_drewN | apply Kd.V_drew)); exact HO_6.out) hb); have n2_ := Aside0.mk (Kd.V_lower (Kd.V_mono (ok' := fun k_ => True) ho0 (fun k_ hk_ => trivial)) (below_size (by repeat (first | (with_reducible first | exact HB.out | apply below_alloc | apply pw_below_drewN | apply below_drew1) | exact HB.out)))); have n3_ := Aside0.mk (below_step (by repeat (first | (with_reducible first | exact HB.out | apply below_alloc | apply pw_below_drewN | apply below_drew1) | exact HB.out)) hb); clear HO_4; clear HO_6; clear HB; have HO_4 := n0_; have HO_6 := n1_; have HO263 := n2_; have HB := n3_; clear n0_ n1_ n2_ n3_; (try clear hb); (try clear hb2); (try clear hk); (try clear hi); (try clear ho0); obtain ⟨Ao27, co27, eo27⟩ := Kd.V_slice HO_6.out; subst eo27)); try go_wp2_with (first | (go_at_call 17; (with_reducible refine (sect_Find.calls (fun k_ => True) _ _ t246 12 t261 t264 _ ?side1 A22.out).mono ?_); (case side1 => exact Kd.S_V (HO_4.out)); rintro e w26 ⟨v262, rfl, ho0, hb⟩; have n0_ := Aside0.mk (Kd.S_below (by (with_reducible repeat (first | apply Kd.S_alloc | apply Kd.S_drewN | apply Kd.S_drew)); exact HO_4.out) hb); have n1_ := Aside0.mk (Kd.V_below (by (with_reducible repeat (first | apply Kd.V_alloc | apply Kd.V_drewN | apply Kd.V_drew)); exact HO_6.out) hb); have n2_ := Aside0.mk (Kd.V_lower (Kd.V_mono (ok' := fun k_ => True) ho0 (fun k_ hk_ => trivial)) (below_size (by repeat (first | (with_reducible first | exact HB.out | apply below_alloc | apply pw_below_drewN | apply below_drew1) | exact HB.out)))); have n3_ := Aside0.mk (below_step (by repeat (first | (with_reducible first | exact HB.out | apply below_alloc | apply pw_below_drewN | apply below_drew1) | exact HB.out)) hb); clear HO_4; clear HO_6; clear HB; have HO_4 := n0_; have HO_6 := n1_; have HO263 := n2_; have HB := n3_; clear n0_ n1_ n2_ n3_; (try clear hb); (try clear hb2); (try clear hk); (try clear hi); (try clear ho0); obtain ⟨Ao27, co27, eo27⟩ := Kd.V_slice HO_6.out; subst eo27)))
                  go_ret
                  exact ⟨by first | rfl | (simp [errW_none, errW_some] <;> rfl) | (simp [*, errW_none, errW_some] <;> rfl), by repeat (first | (with_reducible first | exact HB.out | apply below_alloc | apply pw_below_drewN | apply below_drew1) | exact HB.out)⟩
                · rw [if_neg c25] at H
                  have c25b0 : decide ((t250.length : Int) ≤ (l0.length : Int)) = false := decide_eq_false c25
                  have c25b1 : decide (t250.length ≤ l0.length) = false := decide_eq_false (fun h => c25 (Int.ofNat_le.mpr h))
                  clear c25
                  exact absurd ((Option.some.inj H).trans HRT_.out) (by decide)
              · rw [if_neg c24] at H
                have c24b0 : (t253 == 0) = false := beq_eq_false_iff_ne.mpr c24
                have c24b1 : (t253 != 0) = true := bne_iff_ne.mpr c24
                exact absurd ((Option.some.inj H).trans HRT_.out) (by decide)
            · replace c23 := Bool.eq_false_iff.mpr c23
              subst c23
              have H1 : (some false) = some r := by rw [if_neg (show ¬ (false = true) by decide)] at H; exact H
              clear H
              have H := H1
              clear H1
              exact absurd ((Option.some.inj H).trans HRT_.out) (by decide)
    · rw [if_neg c6] at H
      have c6b0 : (t247 == 0) = false := beq_eq_false_iff_ne.mpr c6
      have c6b1 : (t247 != 0) = true := bne_iff_ne.mpr c6
      by_cases c28 : t245 = true
      · subst c28
        have H1 : (some ((t246.length : Int) == 0)) = some r := by rw [if_pos rfl] at H; exact H
        clear H
        have H := H1
        clear H1
        obtain rfl := Option.some.inj H
        go_enter Tryd.func6, Tryd.ntmps6
        go_wp2_with (first | (go_at_call 9; (with_reducible refine (avocetlaw07_awake.calls k  true _ ?side1 A2.out).mono ?_); (case side1 => first | exact Globs.below HG.out HB.out | exact Globs.below HG.out (by repeat (first | (with_reducible first | exact HB.out | apply below_alloc | apply pw_below_drewN | apply below_drew1) | exact HB.out)) | (repeat (first | exact HG.out | (with_reducible refine Globs.alloc ?_ _) | (with_reducible refine Globs.drewN ?_ _) | (with_reducible refine Globs.drew ?_)))); rintro e w29 ⟨rfl, hb⟩; have n0_ := Aside0.mk (below_step (by repeat (first | (with_reducible first | exact HB.out | apply below_alloc | apply pw_below_drewN | apply below_drew1) | exact HB.out)) hb); clear HB; have HB := n0_; clear n0_; (try clear hb); (try clear hb2); (try clear hk); (try clear hi)) | (go_at_call 13; (with_reducible refine (sect_Split.calls k _ _ l0 t246 t247 _ ?side3 ?side1 ?side2 A5.out).mono ?_); (case side1 => repeat (first | exact (Kd.C_below HR0.out HB.out) | (with_reducible refine Kd.C_alloc ?_ _) | (with_reducible refine Kd.C_drewN ?_ _) | (with_reducible refine Kd.C_drew ?_))); (case side2 => exact HC0.out); (case side3 => first | exact Globs.below HG.out HB.out | exact Globs.below HG.out (by repeat (first | (with_reducible first | exact HB.out | apply below_alloc | apply pw_below_drewN | apply below_drew1) | exact HB.out)) | (repeat (first | exact HG.out | (with_reducible refine Globs.alloc ?_ _) | (with_reducible refine Globs.drewN ?_ _) | (with_reducible refine Globs.drew ?_)))); rintro e w30 ⟨v248, rfl, ho0, hb⟩; have n0_ := Aside0.mk (Kd.S_lower ho0 (below_size (by repeat (first | (with_reducible first | exact HB.out | apply below_alloc | apply pw_below_drewN | apply below_drew1) | exact HB.out)))); have n1_ := Aside0.mk (below_step (by repeat (first | (with_reducible first | exact HB.out | apply below_alloc | apply pw_below_drewN | apply below_drew1) | exact HB.out)) hb); clear HB; have HO249 := n0_; have HB := n1_; clear n0_ n1_; (try clear hb); (try clear hb2); (try clear hk); (try clear hi); (try clear ho0); obtain ⟨Ao31, co31, eo31⟩ := Kd.S_slice HO249.out; subst eo31))
        repeat (go_quiet (first | (go_at_call 9; (with_reducible refine (avocetlaw07_awake.calls k  true _ ?side1 A2.out).mono ?_); (case side1 => first | exact Globs.below HG.out HB.out | exact Globs.below HG.out (by repeat (first | (with_reducible first | exact HB.out | apply below_alloc | apply pw_below_drewN | apply below_drew1) | exact HB.out)) | (repeat (first | exact HG.out | (with_reducible refine Globs.alloc ?_ _) | (with_reducible refine Globs.drewN ?_ _) | (with_reducible refine Globs.drew ?_)))); rintro e w29 ⟨rfl, hb⟩; have n0_ := Aside0.mk (below_step (by repeat (first | (with_reducible first | exact HB.out | apply below_alloc | apply pw_below_drewN | apply below_drew1) | exact HB.out)) hb); clear HB; have HB := n0_; clear n0_; (try clear hb); (try clear hb2); (try clear hk); (try clear hi)) | (go_at_call 13; (with_reducible refine (sect_Split.calls k _ _ l0 t246 t247 _ ?side3 ?side1 ?side2 A5.out).mono ?_); (case side1 => repeat (first | exact (Kd.C_below HR0.out HB.out) | (with_reducible refine Kd.C_alloc ?_ _) | (with_reducible refine Kd.C_drewN ?_ _) | (with_reducible refine Kd.C_drew ?_))); (case side2 => exact HC0.out); (case side3 => first | exact Globs.below HG.out HB.out | exact Globs.below HG.out (by repeat (first | (with_reducible first | exact HB.out | apply below_alloc | apply pw_below_drewN | apply below_drew1) | exact HB.out)) | (repeat (first | exact HG.out | (with_reducible refine Globs.alloc ?_ _) | (with_reducible refine Globs.drewN ?_ _) | (with_reducible refine Globs.drew ?_)))); rintro e w30 ⟨v248, rfl, ho0, hb⟩; have n0_ := Aside0.mk (Kd.S_lower ho0 (below_size (by repeat (first | (with_reducible first | exact HB.out | apply below_alloc | apply pw_below_drewN | apply below_drew1) | exact HB.out)))); have n1_ := Aside0.mk (below_step (by repeat (first | (with_reducible first | exact HB.out | apply below_alloc | apply pw_below_drewN | apply below_drew1) | exact HB.out)) hb); clear HB; have HO249 := n0_; have HB := n1_; clear n0_ n1_; (try clear hb); (try clear hb2); (try clear hk); (try clear hi); (try clear ho0); obtain ⟨Ao31, co31, eo31⟩ := Kd.S_slice HO249.out; subst eo31)); try go_wp2_with (first | (go_at_call 9; (with_reducible refine (avocetlaw07_awake.calls k  true _ ?side1 A2.out).mono ?_); (case side1 => first | exact Globs.below HG.out HB.out | exact Globs.below HG.out (by repeat (first | (with_reducible first | exact HB.out | apply below_alloc | apply pw_below_drewN | apply below_drew1) | exact HB.out)) | (repeat (first | exact HG.out | (with_reducible refine Globs.alloc ?_ _) | (with_reducible refine Globs.drewN ?_ _) | (with_reducible refine Globs.drew ?_)))); rintro e w29 ⟨rfl, hb⟩; have n0_ := Aside0.mk (below_step (by repeat (first | (with_reducible first | exact HB.out | apply below_alloc | apply pw_below_drewN | apply below_drew1) | exact HB.out)) hb); clear HB; have HB := n0_; clear n0_; (try clear hb); (try clear hb2); (try clear hk); (try clear hi)) | (go_at_call 13; (with_reducible refine (sect_Split.calls k _ _ l0 t246 t247 _ ?side3 ?side1 ?side2 A5.out).mono ?_); (case side1 => repeat (first | exact (Kd.C_below HR0.out HB.out) | (with_reducible refine Kd.C_alloc ?_ _) | (with_reducible refine Kd.C_drewN ?_ _) | (with_reducible refine Kd.C_drew ?_))); (case side2 => exact HC0.out); (case side3 => first | exact Globs.below HG.out HB.out | exact Globs.below HG.out (by repeat (first | (with_reducible first | exact HB.out | apply below_alloc | apply pw_below_drewN | apply below_drew1) | exact HB.out)) | (repeat (first | exact HG.out | (with_reducible refine Globs.alloc ?_ _) | (with_reducible refine Globs.drewN ?_ _) | (with_reducible refine Globs.drew ?_)))); rintro e w30 ⟨v248, rfl, ho0, hb⟩; have n0_ := Aside0.mk (Kd.S_lower ho0 (below_size (by repeat (first | (with_reducible first | exact HB.out | apply below_alloc | apply pw_below_drewN | apply below_drew1) | exact HB.out)))); have n1_ := Aside0.mk (below_step (by repeat (first | (with_reducible first | exact HB.out | apply below_alloc | apply pw_below_drewN | apply below_drew1) | exact HB.out)) hb); clear HB; have HO249 := n0_; have HB := n1_; clear n0_ n1_; (try clear hb); (try clear hb2); (try clear hk); (try clear hi); (try clear ho0); obtain ⟨Ao31, co31, eo31⟩ := Kd.S_slice HO249.out; subst eo31)))
        go_ret
        exact ⟨by first | rfl | (simp [errW_none, errW_some] <;> rfl) | (simp [*, errW_none, errW_some] <;> rfl), by repeat (first | (with_reducible first | exact HB.out | apply below_alloc | apply pw_below_drewN | apply below_drew1) | exact HB.out)⟩
      · replace c28 := Bool.eq_false_iff.mpr c28
        subst c28
        have H1 : (some false) = some r := by rw [if_neg (show ¬ (false = true) by decide)] at H; exact H
        clear H
        have H := H1
        clear H1
        exact absurd ((Option.some.inj H).trans HRT_.out) (by decide)

/-- THE ONE PURE STATEMENT of avocetlaw07_SectTold: yours. -/
def avocetlaw07_SectTold.Pure : Prop := ∀ (l0 : List Int), l0.length ≤ maxLen → l0.length * 1 ≤ 140737488351232 → (∀ x ∈ l0, (Lit.int .u8 x).wf = true) → ∃ k, avocetlaw07_SectTold.f k l0 = some true
theorem avocetlaw07_SectTold.walk (P : avocetlaw07_SectTold.Pure) (a0 : Option Addr) (len0 cap0 : Nat) (z0 : List Int) (w : World) (hG : Globs w) (w0 : (a0 = none ∧ len0 = 0 ∧ cap0 = 0 ∧ z0 = []) ∨ ∃ x, a0 = some x ∧ len0 ≤ cap0 ∧ cap0 ≤ maxLen ∧ z0.length = cap0 ∧ (∀ i, i < z0.length → w.cell? (x.add i) = some (.int .u8 (z0.getD i 0))) ∧ ∀ n ∈ z0, (Lit.int .u8 n).wf = true) (y0 : len0 * 1 ≤ 140737488351232) :
    Calls Tryd.prog 6 #[.slice a0 len0 cap0] w fun e w' => e = .returned (.bool true) ∧ Below w.heap.size w w' := by
  obtain ⟨l0, rfl, hr0, hm0, hw0, hc0⟩ := ReadsInt.ofRowC w0
  obtain ⟨k, h⟩ := P l0 hm0 y0 hw0
  refine (avocetlaw07_SectTold.calls k _ _ l0 true w hG (Kd.C_of_reads (d := (0 : Int)) (h1 := fun _ => rfl) hr0) hc0 rfl h).mono ?_
  rintro e w' ⟨rfl, hd⟩
  exact ⟨rfl, hd⟩

end Go.Proofs.YtoeknjmdlmhajaaDoor.G
