-- Made by gprint.py (mine) over the kit's print.py, out of the translation; parts of it typed by hand.
import Derived.Test.YtmbpimhfanafcaaDoorG0
import Derived.Test.YtmbpimhfanafcaaDoorG1
import Derived.Test.YtmbpimhfanafcaaDoorG2
namespace Go.Proofs.YtmbpimhfanafcaaDoor.G
open Go.RowKit Go.Proofs.YtmbpimhfanafcaaDoorW.PrintWords Go.Proofs.YtmbpimhfanafcaaDoorW.PrintLast Go.Proofs.YtmbpimhfanafcaaDoorW.PrintMore
attribute [local go_sem] max2_int min2_int max_two min_two max_three min_three max_four min_four   -- for this text's walks alone
set_option linter.unusedVariables false
set_option linter.unusedSimpArgs false

/-! ### avocetlaw03_UtfBack: function 4 -/
mutual
def avocetlaw03_UtfBack.j0 : Nat → List Int → List Int → Bool → Bool → Option (Bool)
  | 0, _, _, _, _ => none
  | k + 1, x0, x1, x5, x22 => if x22 = true then (some x5) else ((utf_Runes.f x0).bind fun bt199 => ((utf_FromRunes.f k bt199.1).bind fun bt203 => (if bt199.2 = true then (if bt203.2 = true then (if (strOfNums bt203.1).toList = (strOfNums x0).toList then ((utf_Valid.f x0).bind fun t207 => (avocetlaw03_UtfBack.j1 k x1 x5 (bt199.2 != t207))) else (avocetlaw03_UtfBack.j1 k x1 x5 true)) else (avocetlaw03_UtfBack.j1 k x1 x5 true)) else ((utf_Valid.f x0).bind fun t208 => (avocetlaw03_UtfBack.j1 k x1 x5 (bt199.2 != t208))))))
def avocetlaw03_UtfBack.j1 : Nat → List Int → Bool → Bool → Option (Bool)
  | 0, _, _, _ => none
  | k + 1, x1, x5, x51 => if x51 = true then (some false) else ((utf_FromRunes.f k x1).bind fun bt209 => ((utf_Runes.f bt209.1).bind fun bt213 => (if x5 = true then (if bt209.2 = true then (if bt213.2 = true then ((avocetref03_Ints.f k bt213.1 x1).bind fun t217 => (if t217 = true then ((utf_Valid.f bt209.1).bind fun t218 => (some t218)) else (some false))) else (some false)) else (some true)) else (some false))))
end
def avocetlaw03_UtfBack.f (k : Nat) (l0 : List Int) (l1 : List Int) : Option (Bool) := (avocetlaw03_awake.f).bind fun t198 => (if (l0.length : Int) > 500 then (avocetlaw03_UtfBack.j0 k l0 l1 t198 true) else (avocetlaw03_UtfBack.j0 k l0 l1 t198 (decide ((l1.length : Int) > 200))))
theorem avocetlaw03_UtfBack.mono_l : ∀ k, (∀ y0 y1 y2 y3, LeO (avocetlaw03_UtfBack.j0 k y0 y1 y2 y3) (avocetlaw03_UtfBack.j0 (k + 1) y0 y1 y2 y3)) ∧ (∀ y0 y1 y2, LeO (avocetlaw03_UtfBack.j1 k y0 y1 y2) (avocetlaw03_UtfBack.j1 (k + 1) y0 y1 y2))
  | 0 => ⟨fun _ _ _ _ r h => by simp [avocetlaw03_UtfBack.j0] at h, fun _ _ _ r h => by simp [avocetlaw03_UtfBack.j1] at h⟩
  | k + 1 => by
    obtain ⟨ih0, ih1⟩ := avocetlaw03_UtfBack.mono_l k
    refine ⟨?_, ?_⟩
    · intro y0 y1 y2 y3
      unfold avocetlaw03_UtfBack.j0
      repeat' first
      | (with_reducible exact ih0 _ _ _ _)
      | (with_reducible exact ih1 _ _ _)
      | (with_reducible exact avocetref03_Ints.mono _ _ _)
      | (with_reducible exact utf_FromRunes.mono _ _)
      | (with_reducible exact LeO.refl _)
      | (with_reducible exact LeO.none _)
      | (with_reducible refine LeO.ite ?_ ?_)
      | (with_reducible refine LeO.bind ?_ (fun _ => ?_))
      | exact ih0 _ _ _ _
      | exact ih1 _ _ _
      | exact avocetref03_Ints.mono _ _ _
      | exact utf_FromRunes.mono _ _
      | exact LeO.none _
      | refine LeO.ite ?_ ?_
      | refine LeO.bind ?_ (fun _ => ?_)
    · intro y0 y1 y2
      unfold avocetlaw03_UtfBack.j1
      repeat' first
      | (with_reducible exact ih0 _ _ _ _)
      | (with_reducible exact ih1 _ _ _)
      | (with_reducible exact avocetref03_Ints.mono _ _ _)
      | (with_reducible exact utf_FromRunes.mono _ _)
      | (with_reducible exact LeO.refl _)
      | (with_reducible exact LeO.none _)
      | (with_reducible refine LeO.ite ?_ ?_)
      | (with_reducible refine LeO.bind ?_ (fun _ => ?_))
      | exact ih0 _ _ _ _
      | exact ih1 _ _ _
      | exact avocetref03_Ints.mono _ _ _
      | exact utf_FromRunes.mono _ _
      | exact LeO.none _
      | refine LeO.ite ?_ ?_
      | refine LeO.bind ?_ (fun _ => ?_)
theorem avocetlaw03_UtfBack.mono : ∀ a0 a1 k, LeO (avocetlaw03_UtfBack.f k a0 a1) (avocetlaw03_UtfBack.f (k + 1) a0 a1) := by
  intro a0 a1 k
  obtain ⟨ih0, ih1⟩ := avocetlaw03_UtfBack.mono_l k
  unfold avocetlaw03_UtfBack.f
  repeat' first
      | (with_reducible exact ih0 _ _ _ _)
      | (with_reducible exact ih1 _ _ _)
      | (with_reducible exact avocetref03_Ints.mono _ _ _)
      | (with_reducible exact utf_FromRunes.mono _ _)
      | (with_reducible exact LeO.refl _)
      | (with_reducible exact LeO.none _)
      | (with_reducible refine LeO.ite ?_ ?_)
      | (with_reducible refine LeO.bind ?_ (fun _ => ?_))
      | exact ih0 _ _ _ _
      | exact ih1 _ _ _
      | exact avocetref03_Ints.mono _ _ _
      | exact utf_FromRunes.mono _ _
      | exact LeO.none _
      | refine LeO.ite ?_ ?_
      | refine LeO.bind ?_ (fun _ => ?_)
set_option maxHeartbeats 8000000 in
set_option maxRecDepth 100000 in
theorem avocetlaw03_UtfBack.calls (k : Nat) (A0 : Option Addr) (c0 : Nat) (l0 : List Int) (A1 : Option Addr) (c1 : Nat) (l1 : List Int) (r : Bool) (w : World) (hG : Globs w) (hr0 : Kd.C (Kd.int .u8) w A0 l0.length l0) (hc0 : l0.length ≤ c0) (hr1 : Kd.C (Kd.int .i64) w A1 l1.length l1) (hc1 : l1.length ≤ c1) (hr_ : r = true) (h : avocetlaw03_UtfBack.f k l0 l1 = some r) :
    Calls Tryd.prog 4 #[.slice A0 l0.length c0, .slice A1 l1.length c1] w fun e w' => e = .returned (.bool r) ∧ Below w.heap.size w w' := by
  have HRT_ := Aside0.mk hr_
  clear hr_
  have HG := Aside0.mk hG
  clear hG
  have HR0 := Aside0.mk hr0
  have HC0 := Aside0.mk hc0
  clear hr0 hc0
  have HR1 := Aside0.mk hr1
  have HC1 := Aside0.mk hc1
  clear hr1 hc1
  have HB := Aside0.mk (Below.refl w.heap.size w)
  have H : ((avocetlaw03_awake.f).bind fun t198 => (if (l0.length : Int) > 500 then (avocetlaw03_UtfBack.j0 k l0 l1 t198 true) else (avocetlaw03_UtfBack.j0 k l0 l1 t198 (decide ((l1.length : Int) > 200))))) = some r := h
  clear h
  replace H := Option.bind_eq_some_iff.mp H
  obtain ⟨t198, A30, H⟩ := H
  replace H : (if (l0.length : Int) > 500 then (avocetlaw03_UtfBack.j0 k l0 l1 t198 true) else (avocetlaw03_UtfBack.j0 k l0 l1 t198 (decide ((l1.length : Int) > 200)))) = some r := H
  have A3 := Aside0.mk A30
  clear A30
  have HC4 := Aside0.mk H
  clear H
  go_enter Tryd.func4, Tryd.ntmps4
  go_upto_region 2 with (first | ((with_reducible refine gate_callee (f := 9) rfl ?_); refine goesL_ (some 14) rfl rfl Tryd.func9 (by kernel_rfl) rfl #[] rfl (by (try simp only [List.map_toArray, List.map_cons, List.map_nil]); first | done | rfl | (simp only [List.length_drop, List.length_take]; rfl)) ?_; (with_reducible refine (avocetlaw03_awake.calls  t198 _ ?side1 A3.out).mono ?_); (case side1 => first | exact Globs.below HG.out HB.out | exact Globs.below HG.out (by repeat (first | (with_reducible first | exact HB.out | apply below_alloc | apply pw_below_drewN | apply below_drew1) | exact HB.out)) | (repeat (first | exact HG.out | (with_reducible refine Globs.alloc ?_ _) | (with_reducible refine Globs.drewN ?_ _) | (with_reducible refine Globs.drew ?_)))); rintro e w5 ⟨rfl, hb⟩; refine ⟨_, rfl, ?_⟩; have n0_ := Aside0.mk (below_step (by repeat (first | (with_reducible first | exact HB.out | apply below_alloc | apply pw_below_drewN | apply below_drew1) | exact HB.out)) hb); clear HB; have HB := n0_; clear n0_; (try clear hb); (try clear hb2); (try clear hk); (try clear hi)))
  (try simp only [Act.put, List.setIfInBounds_toArray, List.set_cons_zero, List.set_cons_succ])
  go_cut [22] (fun v22 wc => ∃ (kq : Nat) (x22_3 : Bool), v22 = .bool x22_3 ∧ Aside0 (avocetlaw03_UtfBack.j0 kq l0 l1 t198 x22_3 = some r) ∧ Aside0 (kq ≤ k) ∧ Aside0 (Below w.heap.size w wc))
  case first =>
    have H := HC4.out
    clear HC4
    by_cases c6 : (l0.length : Int) > 500
    · rw [if_pos c6] at H
      have c6b0 : decide (500 < (l0.length : Int)) = true := decide_eq_true c6
      have c6b1 : decide (500 < l0.length) = true := decide_eq_true (by omega)
      clear c6
      (first | rw [c6b0] | (simp only [i64_w, i32_w]; rw [c6b0]) | skip)
      have H' := Aside0.mk H
      clear H
      go_wp2
      go_meet
      case rel => exact ⟨_, (true), (by first | rfl | (simp; done) | (simp [*]; done)), H', ⟨by first | omega | exact Nat.le_refl _⟩, ⟨by repeat (first | (with_reducible first | exact HB.out | apply below_alloc | apply pw_below_drewN | apply below_drew1) | exact HB.out)⟩⟩
    · rw [if_neg c6] at H
      have c6b0 : decide (500 < (l0.length : Int)) = false := decide_eq_false c6
      have c6b1 : decide (500 < l0.length) = false := decide_eq_false (by omega)
      clear c6
      (first | rw [c6b0] | (simp only [i64_w, i32_w]; rw [c6b0]) | skip)
      have H' := Aside0.mk H
      clear H
      go_wp2
      go_meet
      case rel => exact ⟨_, (decide ((l1.length : Int) > 200)), (by first | rfl | (simp; done) | (simp [*]; done)), H', ⟨by first | omega | exact Nat.le_refl _⟩, ⟨by repeat (first | (with_reducible first | exact HB.out | apply below_alloc | apply pw_below_drewN | apply below_drew1) | exact HB.out)⟩⟩
  case rest =>
    clear HC4
    try clear c1
    try clear p2
    try clear c4
    try clear c6
    try clear c6b0
    try clear c6b1
    obtain ⟨kq, x22_3, rfl, HA, HJ3, HB⟩ := hcut
    cases kq with
    | zero => exact absurd HA.out (by simp [avocetlaw03_UtfBack.j0])
    | succ kj3 =>
      have H := HA.out
      clear HA
      simp only [avocetlaw03_UtfBack.j0] at H
      by_cases c7 : x22_3 = true
      · subst c7
        have H1 : (some t198) = some r := by rw [if_pos rfl] at H; exact H
        clear H
        have H := H1
        clear H1
        obtain rfl := Option.some.inj H
        go_wp2
        go_ret
        exact ⟨by first | rfl | (simp [errW_none, errW_some] <;> rfl) | (simp [*, errW_none, errW_some] <;> rfl), by repeat (first | (with_reducible first | exact HB.out | apply below_alloc | apply pw_below_drewN | apply below_drew1) | exact HB.out)⟩
      · replace c7 := Bool.eq_false_iff.mpr c7
        subst c7
        have H1 : ((utf_Runes.f l0).bind fun bt199 => ((utf_FromRunes.f kj3 bt199.1).bind fun bt203 => (if bt199.2 = true then (if bt203.2 = true then (if (strOfNums bt203.1).toList = (strOfNums l0).toList then ((utf_Valid.f l0).bind fun t207 => (avocetlaw03_UtfBack.j1 kj3 l1 t198 (bt199.2 != t207))) else (avocetlaw03_UtfBack.j1 kj3 l1 t198 true)) else (avocetlaw03_UtfBack.j1 kj3 l1 t198 true)) else ((utf_Valid.f l0).bind fun t208 => (avocetlaw03_UtfBack.j1 kj3 l1 t198 (bt199.2 != t208)))))) = some r := by rw [if_neg (show ¬ (false = true) by decide)] at H; exact H
        clear H
        have H := H1
        clear H1
        replace H := Option.bind_eq_some_iff.mp H
        obtain ⟨⟨t199, t200⟩, A80, H⟩ := H
        replace H : ((utf_FromRunes.f kj3 t199).bind fun bt203 => (if t200 = true then (if bt203.2 = true then (if (strOfNums bt203.1).toList = (strOfNums l0).toList then ((utf_Valid.f l0).bind fun t207 => (avocetlaw03_UtfBack.j1 kj3 l1 t198 (t200 != t207))) else (avocetlaw03_UtfBack.j1 kj3 l1 t198 true)) else (avocetlaw03_UtfBack.j1 kj3 l1 t198 true)) else ((utf_Valid.f l0).bind fun t208 => (avocetlaw03_UtfBack.j1 kj3 l1 t198 (t200 != t208))))) = some r := H
        have A8 := Aside0.mk A80
        clear A80
        replace H := Option.bind_eq_some_iff.mp H
        obtain ⟨⟨t203, t204⟩, A90, H⟩ := H
        replace H : (if t200 = true then (if t204 = true then (if (strOfNums t203).toList = (strOfNums l0).toList then ((utf_Valid.f l0).bind fun t207 => (avocetlaw03_UtfBack.j1 kj3 l1 t198 (t200 != t207))) else (avocetlaw03_UtfBack.j1 kj3 l1 t198 true)) else (avocetlaw03_UtfBack.j1 kj3 l1 t198 true)) else ((utf_Valid.f l0).bind fun t208 => (avocetlaw03_UtfBack.j1 kj3 l1 t198 (t200 != t208)))) = some r := H
        have A9 := Aside0.mk A90
        clear A90
        have HC10 := Aside0.mk H
        clear H
        go_upto_region 6 with (first | ((with_reducible refine gate_callee (f := 10) rfl ?_); refine goesL_ (some 26) rfl rfl Tryd.func10 (by kernel_rfl) rfl #[.slice A0 l0.length c0] rfl (by (try simp only [List.map_toArray, List.map_cons, List.map_nil]); first | done | rfl | (simp only [List.length_drop, List.length_take]; rfl)) ?_; (with_reducible refine (utf_Runes.calls _ _ l0 t199 t200 _ ?side3 ?side1 ?side2 A8.out).mono ?_); (case side1 => repeat (first | exact (Kd.C_below HR0.out HB.out) | (with_reducible refine Kd.C_alloc ?_ _) | (with_reducible refine Kd.C_drewN ?_ _) | (with_reducible refine Kd.C_drew ?_))); (case side2 => exact HC0.out); (case side3 => first | exact Globs.below HG.out HB.out | exact Globs.below HG.out (by repeat (first | (with_reducible first | exact HB.out | apply below_alloc | apply pw_below_drewN | apply below_drew1) | exact HB.out)) | (repeat (first | exact HG.out | (with_reducible refine Globs.alloc ?_ _) | (with_reducible refine Globs.drewN ?_ _) | (with_reducible refine Globs.drew ?_)))); rintro e w11 ⟨v201, rfl, ho0, hb⟩; refine ⟨_, rfl, ?_⟩; have n0_ := Aside0.mk (Kd.R_lower ho0 (below_size (by repeat (first | (with_reducible first | exact HB.out | apply below_alloc | apply pw_below_drewN | apply below_drew1) | exact HB.out)))); have n1_ := Aside0.mk (below_step (by repeat (first | (with_reducible first | exact HB.out | apply below_alloc | apply pw_below_drewN | apply below_drew1) | exact HB.out)) hb); clear HB; have HO202 := n0_; have HB := n1_; clear n0_ n1_; (try clear hb); (try clear hb2); (try clear hk); (try clear hi); (try clear ho0); obtain ⟨Ao12, co12, eo12⟩ := Kd.R_slice HO202.out; subst eo12) | ((with_reducible refine gate_callee (f := 12) rfl ?_); refine goesL_ (some 31) rfl rfl Tryd.func12 (by kernel_rfl) rfl #[.slice Ao12 t199.length co12] rfl (by (try simp only [List.map_toArray, List.map_cons, List.map_nil]); first | done | rfl | (simp only [List.length_drop, List.length_take]; rfl)) ?_; (with_reducible refine (utf_FromRunes.calls kj3 _ _ t199 t203 t204 _ ?side1 ?side2 A9.out).mono ?_); (case side1 => repeat (first | exact (Kd.R_reads' HO202.out).2.2 | (with_reducible refine Kd.C_alloc ?_ _) | (with_reducible refine Kd.C_drewN ?_ _) | (with_reducible refine Kd.C_drew ?_))); (case side2 => exact (Kd.R_reads' HO202.out).2.1); rintro e w13 ⟨v205, rfl, ho0, hb⟩; refine ⟨_, rfl, ?_⟩; have n0_ := Aside0.mk (Kd.R_below (by (with_reducible repeat (first | apply Kd.R_alloc | apply Kd.R_drewN | apply Kd.R_drew)); exact HO202.out) hb); have n1_ := Aside0.mk (Kd.R_lower ho0 (below_size (by repeat (first | (with_reducible first | exact HB.out | apply below_alloc | apply pw_below_drewN | apply below_drew1) | exact HB.out)))); have n2_ := Aside0.mk (below_step (by repeat (first | (with_reducible first | exact HB.out | apply below_alloc | apply pw_below_drewN | apply below_drew1) | exact HB.out)) hb); clear HO202; clear HB; have HO202 := n0_; have HO206 := n1_; have HB := n2_; clear n0_ n1_ n2_; (try clear hb); (try clear hb2); (try clear hk); (try clear hi); (try clear ho0)))
        (try simp only [Act.put, List.setIfInBounds_toArray, List.set_cons_zero, List.set_cons_succ])
        go_cut [51] (fun v51 wc => ∃ (kq : Nat) (x51_9 : Bool), v51 = .bool x51_9 ∧ Aside0 (avocetlaw03_UtfBack.j1 kq l1 t198 x51_9 = some r) ∧ Aside0 (kq ≤ kj3) ∧ Aside0 (Below w.heap.size w wc))
        case first =>
          have H := HC10.out
          clear HC10
          by_cases c14 : t200 = true
          · subst c14
            have H1 : (if t204 = true then (if (strOfNums t203).toList = (strOfNums l0).toList then ((utf_Valid.f l0).bind fun t207 => (avocetlaw03_UtfBack.j1 kj3 l1 t198 (true != t207))) else (avocetlaw03_UtfBack.j1 kj3 l1 t198 true)) else (avocetlaw03_UtfBack.j1 kj3 l1 t198 true)) = some r := by rw [if_pos rfl] at H; exact H
            clear H
            have H := H1
            clear H1
            by_cases c15 : t204 = true
            · subst c15
              have H1 : (if (strOfNums t203).toList = (strOfNums l0).toList then ((utf_Valid.f l0).bind fun t207 => (avocetlaw03_UtfBack.j1 kj3 l1 t198 (true != t207))) else (avocetlaw03_UtfBack.j1 kj3 l1 t198 true)) = some r := by rw [if_pos rfl] at H; exact H
              clear H
              have H := H1
              clear H1
              by_cases c16 : (strOfNums t203).toList = (strOfNums l0).toList
              · rw [if_pos c16] at H
                have c16b0 : ((strOfNums t203).toList == (strOfNums l0).toList) = true := beq_iff_eq.mpr c16
                have c16b1 : ((strOfNums t203).toList != (strOfNums l0).toList) = false := bne_eq_false_iff_eq.mpr c16
                clear c16
                (first | rw [c16b0] | (simp only [i64_w, i32_w]; rw [c16b0]) | skip)
                replace H := Option.bind_eq_some_iff.mp H
                obtain ⟨t207, A170, H⟩ := H
                replace H : (avocetlaw03_UtfBack.j1 kj3 l1 t198 (true != t207)) = some r := H
                have A17 := Aside0.mk A170
                clear A170
                have H' := Aside0.mk H
                clear H
                have hcv18 := own_string (P := Tryd.prog) Tryd.underlying22 Tryd.underlying5 Tryd.underlying9 (Kd.own_of_R HO206.out)
                have hcv19 := Kd.C_string (P := Tryd.prog) (A := A0) (c := c0) Tryd.underlying22 Tryd.underlying5 Tryd.underlying9 (Kd.C_below HR0.out HB.out)
                go_wp2_with (first | (go_at_call 13; (with_reducible refine (utf_Valid.calls _ _ l0 t207 _ ?side3 ?side1 ?side2 A17.out).mono ?_); (case side1 => repeat (first | exact (Kd.C_below HR0.out HB.out) | (with_reducible refine Kd.C_alloc ?_ _) | (with_reducible refine Kd.C_drewN ?_ _) | (with_reducible refine Kd.C_drew ?_))); (case side2 => exact HC0.out); (case side3 => first | exact Globs.below HG.out HB.out | exact Globs.below HG.out (by repeat (first | (with_reducible first | exact HB.out | apply below_alloc | apply pw_below_drewN | apply below_drew1) | exact HB.out)) | (repeat (first | exact HG.out | (with_reducible refine Globs.alloc ?_ _) | (with_reducible refine Globs.drewN ?_ _) | (with_reducible refine Globs.drew ?_)))); rintro e w20 ⟨rfl, hb⟩; have n0_ := Aside0.mk (Kd.R_below (by (with_reducible repeat (first | apply Kd.R_alloc | apply Kd.R_drewN | apply Kd.R_drew)); exact HO202.out) hb); have n1_ := Aside0.mk (Kd.R_below (by (with_reducible repeat (first | apply Kd.R_alloc | apply Kd.R_drewN | apply Kd.R_drew)); exact HO206.out) hb); have n2_ := Aside0.mk (below_step (by repeat (first | (with_reducible first | exact HB.out | apply below_alloc | apply pw_below_drewN | apply below_drew1) | exact HB.out)) hb); clear HO202; clear HO206; clear HB; have HO202 := n0_; have HO206 := n1_; have HB := n2_; clear n0_ n1_ n2_; (try clear hb); (try clear hb2); (try clear hk); (try clear hi)))
                go_meet
                case rel => exact ⟨_, ((true != t207)), (by first | rfl | (simp; done) | (simp [*]; done)), H', ⟨by have := HJ3.out; first | omega | exact Nat.le_refl _⟩, ⟨by repeat (first | (with_reducible first | exact HB.out | apply below_alloc | apply pw_below_drewN | apply below_drew1) | exact HB.out)⟩⟩
              · rw [if_neg c16] at H
                have c16b0 : ((strOfNums t203).toList == (strOfNums l0).toList) = false := beq_eq_false_iff_ne.mpr c16
                have c16b1 : ((strOfNums t203).toList != (strOfNums l0).toList) = true := bne_iff_ne.mpr c16
                (first | rw [c16b0] | (simp only [i64_w, i32_w]; rw [c16b0]) | skip)
                exfalso; rw [HRT_.out] at H; revert H; cases kj3 <;> simp [avocetlaw03_UtfBack.j1]
            · replace c15 := Bool.eq_false_iff.mpr c15
              subst c15
              have H1 : (avocetlaw03_UtfBack.j1 kj3 l1 t198 true) = some r := by rw [if_neg (show ¬ (false = true) by decide)] at H; exact H
              clear H
              have H := H1
              clear H1
              exfalso; rw [HRT_.out] at H; revert H; cases kj3 <;> simp [avocetlaw03_UtfBack.j1]
          · replace c14 := Bool.eq_false_iff.mpr c14
            subst c14
            have H1 : ((utf_Valid.f l0).bind fun t208 => (avocetlaw03_UtfBack.j1 kj3 l1 t198 (false != t208))) = some r := by rw [if_neg (show ¬ (false = true) by decide)] at H; exact H
            clear H
            have H := H1
            clear H1
            replace H := Option.bind_eq_some_iff.mp H
            obtain ⟨t208, A210, H⟩ := H
            replace H : (avocetlaw03_UtfBack.j1 kj3 l1 t198 (false != t208)) = some r := H
            have A21 := Aside0.mk A210
            clear A210
            have H' := Aside0.mk H
            clear H
            go_wp2_with (first | (go_at_call 13; (with_reducible refine (utf_Valid.calls _ _ l0 t208 _ ?side3 ?side1 ?side2 A21.out).mono ?_); (case side1 => repeat (first | exact (Kd.C_below HR0.out HB.out) | (with_reducible refine Kd.C_alloc ?_ _) | (with_reducible refine Kd.C_drewN ?_ _) | (with_reducible refine Kd.C_drew ?_))); (case side2 => exact HC0.out); (case side3 => first | exact Globs.below HG.out HB.out | exact Globs.below HG.out (by repeat (first | (with_reducible first | exact HB.out | apply below_alloc | apply pw_below_drewN | apply below_drew1) | exact HB.out)) | (repeat (first | exact HG.out | (with_reducible refine Globs.alloc ?_ _) | (with_reducible refine Globs.drewN ?_ _) | (with_reducible refine Globs.drew ?_)))); rintro e w22 ⟨rfl, hb⟩; have n0_ := Aside0.mk (Kd.R_below (by (with_reducible repeat (first | apply Kd.R_alloc | apply Kd.R_drewN | apply Kd.R_drew)); exact HO202.out) hb); have n1_ := Aside0.mk (Kd.R_below (by (with_reducible repeat (first | apply Kd.R_alloc | apply Kd.R_drewN | apply Kd.R_drew)); exact HO206.out) hb); have n2_ := Aside0.mk (below_step (by repeat (first | (with_reducible first | exact HB.out | apply below_alloc | apply pw_below_drewN | apply below_drew1) | exact HB.out)) hb); clear HO202; clear HO206; clear HB; have HO202 := n0_; have HO206 := n1_; have HB := n2_; clear n0_ n1_ n2_; (try clear hb); (try clear hb2); (try clear hk); (try clear hi)))
            go_meet
            case rel => exact ⟨_, ((false != t208)), (by first | rfl | (simp; done) | (simp [*]; done)), H', ⟨by have := HJ3.out; first | omega | exact Nat.le_refl _⟩, ⟨by repeat (first | (with_reducible first | exact HB.out | apply below_alloc | apply pw_below_drewN | apply below_drew1) | exact HB.out)⟩⟩
        case rest =>
          clear HC10
          try clear c1
          try clear hcv1
          try clear p2
          try clear c4
          try clear c6
          try clear c6b0
          try clear c6b1
          try clear c7
          try clear c9
          try clear c10
          try clear c12
          try clear c14
          try clear c15
          try clear c16
          try clear c16b0
          try clear c16b1
          try clear hcv18
          try clear hcv19
          try clear p2
          obtain ⟨kq, x51_9, rfl, HA, HJ9, HB⟩ := hcut
          cases kq with
          | zero => exact absurd HA.out (by simp [avocetlaw03_UtfBack.j1])
          | succ kj9 =>
            have H := HA.out
            clear HA
            simp only [avocetlaw03_UtfBack.j1] at H
            by_cases c23 : x51_9 = true
            · subst c23
              have H1 : (some false) = some r := by rw [if_pos rfl] at H; exact H
              clear H
              have H := H1
              clear H1
              exact absurd ((Option.some.inj H).trans HRT_.out) (by decide)
            · replace c23 := Bool.eq_false_iff.mpr c23
              subst c23
              have H1 : ((utf_FromRunes.f kj9 l1).bind fun bt209 => ((utf_Runes.f bt209.1).bind fun bt213 => (if t198 = true then (if bt209.2 = true then (if bt213.2 = true then ((avocetref03_Ints.f kj9 bt213.1 l1).bind fun t217 => (if t217 = true then ((utf_Valid.f bt209.1).bind fun t218 => (some t218)) else (some false))) else (some false)) else (some true)) else (some false)))) = some r := by rw [if_neg (show ¬ (false = true) by decide)] at H; exact H
              clear H
              have H := H1
              clear H1
              replace H := Option.bind_eq_some_iff.mp H
              obtain ⟨⟨t209, t210⟩, A240, H⟩ := H
              replace H : ((utf_Runes.f t209).bind fun bt213 => (if t198 = true then (if t210 = true then (if bt213.2 = true then ((avocetref03_Ints.f kj9 bt213.1 l1).bind fun t217 => (if t217 = true then ((utf_Valid.f t209).bind fun t218 => (some t218)) else (some false))) else (some false)) else (some true)) else (some false))) = some r := H
              have A24 := Aside0.mk A240
              clear A240
              replace H := Option.bind_eq_some_iff.mp H
              obtain ⟨⟨t213, t214⟩, A250, H⟩ := H
              replace H : (if t198 = true then (if t210 = true then (if t214 = true then ((avocetref03_Ints.f kj9 t213 l1).bind fun t217 => (if t217 = true then ((utf_Valid.f t209).bind fun t218 => (some t218)) else (some false))) else (some false)) else (some true)) else (some false)) = some r := H
              have A25 := Aside0.mk A250
              clear A250
              by_cases c26 : t198 = true
              · subst c26
                have H1 : (if t210 = true then (if t214 = true then ((avocetref03_Ints.f kj9 t213 l1).bind fun t217 => (if t217 = true then ((utf_Valid.f t209).bind fun t218 => (some t218)) else (some false))) else (some false)) else (some true)) = some r := by rw [if_pos rfl] at H; exact H
                clear H
                have H := H1
                clear H1
                by_cases c27 : t210 = true
                · subst c27
                  have H1 : (if t214 = true then ((avocetref03_Ints.f kj9 t213 l1).bind fun t217 => (if t217 = true then ((utf_Valid.f t209).bind fun t218 => (some t218)) else (some false))) else (some false)) = some r := by rw [if_pos rfl] at H; exact H
                  clear H
                  have H := H1
                  clear H1
                  by_cases c28 : t214 = true
                  · subst c28
                    have H1 : ((avocetref03_Ints.f kj9 t213 l1).bind fun t217 => (if t217 = true then ((utf_Valid.f t209).bind fun t218 => (some t218)) else (some false))) = some r := by rw [if_pos rfl] at H; exact H
                    clear H
                    have H := H1
                    clear H1
                    replace H := Option.bind_eq_some_iff.mp H
                    obtain ⟨t217, A290, H⟩ := H
                    replace H : (if t217 = true then ((utf_Valid.f t209).bind fun t218 => (some t218)) else (some false)) = some r := H
                    have A29 := Aside0.mk A290
                    clear A290
                    by_cases c30 : t217 = true
                    · subst c30
                      have H1 : ((utf_Valid.f t209).bind fun t218 => (some t218)) = some r := by rw [if_pos rfl] at H; exact H
                      clear H
                      have H := H1
                      clear H1
                      replace H := Option.bind_eq_some_iff.mp H
                      obtain ⟨t218, A310, H⟩ := H
                      replace H : (some t218) = some r := H
                      have A31 := Aside0.mk A310
                      clear A310
                      obtain rfl := Option.some.inj H
                      go_wp2_with (first | ((with_reducible refine gate_callee (f := 12) rfl ?_); refine goesL_ (some 54) rfl rfl Tryd.func12 (by kernel_rfl) rfl #[.slice A1 l1.length c1] rfl (by (try simp only [List.map_toArray, List.map_cons, List.map_nil]); first | done | rfl | (simp only [List.length_drop, List.length_take]; rfl)) ?_; (with_reducible refine (utf_FromRunes.calls kj9 _ _ l1 t209 true _ ?side1 ?side2 A24.out).mono ?_); (case side1 => repeat (first | exact (Kd.C_below HR1.out HB.out) | (with_reducible refine Kd.C_alloc ?_ _) | (with_reducible refine Kd.C_drewN ?_ _) | (with_reducible refine Kd.C_drew ?_))); (case side2 => exact HC1.out); rintro e w32 ⟨v211, rfl, ho0, hb⟩; refine ⟨_, rfl, ?_⟩; have n0_ := Aside0.mk (Kd.R_lower ho0 (below_size (by repeat (first | (with_reducible first | exact HB.out | apply below_alloc | apply pw_below_drewN | apply below_drew1) | exact HB.out)))); have n1_ := Aside0.mk (below_step (by repeat (first | (with_reducible first | exact HB.out | apply below_alloc | apply pw_below_drewN | apply below_drew1) | exact HB.out)) hb); clear HB; have HO212 := n0_; have HB := n1_; clear n0_ n1_; (try clear hb); (try clear hb2); (try clear hk); (try clear hi); (try clear ho0); obtain ⟨Ao33, co33, eo33⟩ := Kd.R_slice HO212.out; subst eo33) | ((with_reducible refine gate_callee (f := 10) rfl ?_); refine goesL_ (some 59) rfl rfl Tryd.func10 (by kernel_rfl) rfl #[.slice Ao33 t209.length co33] rfl (by (try simp only [List.map_toArray, List.map_cons, List.map_nil]); first | done | rfl | (simp only [List.length_drop, List.length_take]; rfl)) ?_; (with_reducible refine (utf_Runes.calls _ _ t209 t213 true _ ?side3 ?side1 ?side2 A25.out).mono ?_); (case side1 => repeat (first | exact (Kd.R_reads' HO212.out).2.2 | (with_reducible refine Kd.C_alloc ?_ _) | (with_reducible refine Kd.C_drewN ?_ _) | (with_reducible refine Kd.C_drew ?_))); (case side2 => exact (Kd.R_reads' HO212.out).2.1); (case side3 => first | exact Globs.below HG.out HB.out | exact Globs.below HG.out (by repeat (first | (with_reducible first | exact HB.out | apply below_alloc | apply pw_below_drewN | apply below_drew1) | exact HB.out)) | (repeat (first | exact HG.out | (with_reducible refine Globs.alloc ?_ _) | (with_reducible refine Globs.drewN ?_ _) | (with_reducible refine Globs.drew ?_)))); rintro e w34 ⟨v215, rfl, ho0, hb⟩; refine ⟨_, rfl, ?_⟩; have n0_ := Aside0.mk (Kd.R_below (by (with_reducible repeat (first | apply Kd.R_alloc | apply Kd.R_drewN | apply Kd.R_drew)); exact HO212.out) hb); have n1_ := Aside0.mk (Kd.R_lower ho0 (below_size (by repeat (first | (with_reducible first | exact HB.out | apply below_alloc | apply pw_below_drewN | apply below_drew1) | exact HB.out)))); have n2_ := Aside0.mk (below_step (by repeat (first | (with_reducible first | exact HB.out | apply below_alloc | apply pw_below_drewN | apply below_drew1) | exact HB.out)) hb); clear HO212; clear HB; have HO212 := n0_; have HO216 := n1_; have HB := n2_; clear n0_ n1_ n2_; (try clear hb); (try clear hb2); (try clear hk); (try clear hi); (try clear ho0); obtain ⟨Ao35, co35, eo35⟩ := Kd.R_slice HO216.out; subst eo35) | (go_at_call 11; (with_reducible refine (avocetref03_Ints.calls kj9 _ _ t213 _ _ l1 true _ ?side1 ?side2 ?side3 ?side4 A29.out).mono ?_); (case side1 => repeat (first | exact (Kd.R_reads' HO216.out).2.2 | (with_reducible refine Kd.C_alloc ?_ _) | (with_reducible refine Kd.C_drewN ?_ _) | (with_reducible refine Kd.C_drew ?_))); (case side2 => exact (Kd.R_reads' HO216.out).2.1); (case side3 => repeat (first | exact (Kd.C_below HR1.out HB.out) | (with_reducible refine Kd.C_alloc ?_ _) | (with_reducible refine Kd.C_drewN ?_ _) | (with_reducible refine Kd.C_drew ?_))); (case side4 => exact HC1.out); rintro e w' ⟨rfl, ⟨nd, rfl⟩⟩) | (go_at_call 13; (with_reducible refine (utf_Valid.calls _ _ t209 t218 _ ?side3 ?side1 ?side2 A31.out).mono ?_); (case side1 => repeat (first | exact (Kd.R_reads' HO212.out).2.2 | (with_reducible refine Kd.C_alloc ?_ _) | (with_reducible refine Kd.C_drewN ?_ _) | (with_reducible refine Kd.C_drew ?_))); (case side2 => exact (Kd.R_reads' HO212.out).2.1); (case side3 => first | exact Globs.below HG.out HB.out | exact Globs.below HG.out (by repeat (first | (with_reducible first | exact HB.out | apply below_alloc | apply pw_below_drewN | apply below_drew1) | exact HB.out)) | (repeat (first | exact HG.out | (with_reducible refine Globs.alloc ?_ _) | (with_reducible refine Globs.drewN ?_ _) | (with_reducible refine Globs.drew ?_)))); rintro e w36 ⟨rfl, hb⟩; have n0_ := Aside0.mk (Kd.R_below (by (with_reducible repeat (first | apply Kd.R_alloc | apply Kd.R_drewN | apply Kd.R_drew)); exact HO212.out) hb); have n1_ := Aside0.mk (Kd.R_below (by (with_reducible repeat (first | apply Kd.R_alloc | apply Kd.R_drewN | apply Kd.R_drew)); exact HO216.out) hb); have n2_ := Aside0.mk (below_step (by repeat (first | (with_reducible first | exact HB.out | apply below_alloc | apply pw_below_drewN | apply below_drew1) | exact HB.out)) hb); clear HO212; clear HO216; clear HB; have HO212 := n0_; have HO216 := n1_; have HB := n2_; clear n0_ n1_ n2_; (try clear hb); (try clear hb2); (try clear hk); (try clear hi)))
                      go_ret
                      exact ⟨by first | rfl | (simp [errW_none, errW_some] <;> rfl) | (simp [*, errW_none, errW_some] <;> rfl), by repeat (first | (with_reducible first | exact HB.out | apply below_alloc | apply pw_below_drewN | apply below_drew1) | exact HB.out)⟩
                    · replace c30 := Bool.eq_false_iff.mpr c30
                      subst c30
                      have H1 : (some false) = some r := by rw [if_neg (show ¬ (false = true) by decide)] at H; exact H
                      clear H
                      have H := H1
                      clear H1
                      exact absurd ((Option.some.inj H).trans HRT_.out) (by decide)
                  · replace c28 := Bool.eq_false_iff.mpr c28
                    subst c28
                    have H1 : (some false) = some r := by rw [if_neg (show ¬ (false = true) by decide)] at H; exact H
                    clear H
                    have H := H1
                    clear H1
                    exact absurd ((Option.some.inj H).trans HRT_.out) (by decide)
                · replace c27 := Bool.eq_false_iff.mpr c27
                  subst c27
                  have H1 : (some true) = some r := by rw [if_neg (show ¬ (false = true) by decide)] at H; exact H
                  clear H
                  have H := H1
                  clear H1
                  obtain rfl := Option.some.inj H
                  go_wp2_with (first | ((with_reducible refine gate_callee (f := 12) rfl ?_); refine goesL_ (some 54) rfl rfl Tryd.func12 (by kernel_rfl) rfl #[.slice A1 l1.length c1] rfl (by (try simp only [List.map_toArray, List.map_cons, List.map_nil]); first | done | rfl | (simp only [List.length_drop, List.length_take]; rfl)) ?_; (with_reducible refine (utf_FromRunes.calls kj9 _ _ l1 t209 false _ ?side1 ?side2 A24.out).mono ?_); (case side1 => repeat (first | exact (Kd.C_below HR1.out HB.out) | (with_reducible refine Kd.C_alloc ?_ _) | (with_reducible refine Kd.C_drewN ?_ _) | (with_reducible refine Kd.C_drew ?_))); (case side2 => exact HC1.out); rintro e w37 ⟨v211, rfl, ho0, hb⟩; refine ⟨_, rfl, ?_⟩; have n0_ := Aside0.mk (Kd.R_lower ho0 (below_size (by repeat (first | (with_reducible first | exact HB.out | apply below_alloc | apply pw_below_drewN | apply below_drew1) | exact HB.out)))); have n1_ := Aside0.mk (below_step (by repeat (first | (with_reducible first | exact HB.out | apply below_alloc | apply pw_below_drewN | apply below_drew1) | exact HB.out)) hb); clear HB; have HO212 := n0_; have HB := n1_; clear n0_ n1_; (try clear hb); (try clear hb2); (try clear hk); (try clear hi); (try clear ho0); obtain ⟨Ao38, co38, eo38⟩ := Kd.R_slice HO212.out; subst eo38) | ((with_reducible refine gate_callee (f := 10) rfl ?_); refine goesL_ (some 59) rfl rfl Tryd.func10 (by kernel_rfl) rfl #[.slice Ao38 t209.length co38] rfl (by (try simp only [List.map_toArray, List.map_cons, List.map_nil]); first | done | rfl | (simp only [List.length_drop, List.length_take]; rfl)) ?_; (with_reducible refine (utf_Runes.calls _ _ t209 t213 t214 _ ?side3 ?side1 ?side2 A25.out).mono ?_); (case side1 => repeat (first | exact (Kd.R_reads' HO212.out).2.2 | (with_reducible refine Kd.C_alloc ?_ _) | (with_reducible refine Kd.C_drewN ?_ _) | (with_reducible refine Kd.C_drew ?_))); (case side2 => exact (Kd.R_reads' HO212.out).2.1); (case side3 => first | exact Globs.below HG.out HB.out | exact Globs.below HG.out (by repeat (first | (with_reducible first | exact HB.out | apply below_alloc | apply pw_below_drewN | apply below_drew1) | exact HB.out)) | (repeat (first | exact HG.out | (with_reducible refine Globs.alloc ?_ _) | (with_reducible refine Globs.drewN ?_ _) | (with_reducible refine Globs.drew ?_)))); rintro e w39 ⟨v215, rfl, ho0, hb⟩; refine ⟨_, rfl, ?_⟩; have n0_ := Aside0.mk (Kd.R_below (by (with_reducible repeat (first | apply Kd.R_alloc | apply Kd.R_drewN | apply Kd.R_drew)); exact HO212.out) hb); have n1_ := Aside0.mk (Kd.R_lower ho0 (below_size (by repeat (first | (with_reducible first | exact HB.out | apply below_alloc | apply pw_below_drewN | apply below_drew1) | exact HB.out)))); have n2_ := Aside0.mk (below_step (by repeat (first | (with_reducible first | exact HB.out | apply below_alloc | apply pw_below_drewN | apply below_drew1) | exact HB.out)) hb); clear HO212; clear HB; have HO212 := n0_; have HO216 := n1_; have HB := n2_; clear n0_ n1_ n2_; (try clear hb); (try clear hb2); (try clear hk); (try clear hi); (try clear ho0)))
                  go_ret
                  exact ⟨by first | rfl | (simp [errW_none, errW_some] <;> rfl) | (simp [*, errW_none, errW_some] <;> rfl), by repeat (first | (with_reducible first | exact HB.out | apply below_alloc | apply pw_below_drewN | apply below_drew1) | exact HB.out)⟩
              · replace c26 := Bool.eq_false_iff.mpr c26
                subst c26
                have H1 : (some false) = some r := by rw [if_neg (show ¬ (false = true) by decide)] at H; exact H
                clear H
                have H := H1
                clear H1
                exact absurd ((Option.some.inj H).trans HRT_.out) (by decide)

/-- THE ONE PURE STATEMENT of avocetlaw03_UtfBack: yours. -/
def avocetlaw03_UtfBack.Pure : Prop := ∀ (l0 : List Int) (l1 : List Int), l0.length ≤ maxLen → l0.length * 1 ≤ 140737488351232 → (∀ x ∈ l0, (Lit.int .u8 x).wf = true) → l1.length ≤ maxLen → l1.length * 8 ≤ 140737488351232 → (∀ x ∈ l1, (Lit.int .i64 x).wf = true) → ∃ k, avocetlaw03_UtfBack.f k l0 l1 = some true
theorem avocetlaw03_UtfBack.walk (P : avocetlaw03_UtfBack.Pure) (a0 : Option Addr) (len0 cap0 : Nat) (z0 : List Int) (a1 : Option Addr) (len1 cap1 : Nat) (z1 : List Int) (w : World) (hG : Globs w) (w0 : (a0 = none ∧ len0 = 0 ∧ cap0 = 0 ∧ z0 = []) ∨ ∃ x, a0 = some x ∧ len0 ≤ cap0 ∧ cap0 ≤ maxLen ∧ z0.length = cap0 ∧ (∀ i, i < z0.length → w.cell? (x.add i) = some (.int .u8 (z0.getD i 0))) ∧ ∀ n ∈ z0, (Lit.int .u8 n).wf = true) (y0 : len0 * 1 ≤ 140737488351232) (w1 : (a1 = none ∧ len1 = 0 ∧ cap1 = 0 ∧ z1 = []) ∨ ∃ x, a1 = some x ∧ len1 ≤ cap1 ∧ cap1 ≤ maxLen ∧ z1.length = cap1 ∧ (∀ i, i < z1.length → w.cell? (x.add i) = some (.int .i64 (z1.getD i 0))) ∧ ∀ n ∈ z1, (Lit.int .i64 n).wf = true) (y1 : len1 * 8 ≤ 140737488351232) :
    Calls Tryd.prog 4 #[.slice a0 len0 cap0, .slice a1 len1 cap1] w fun e w' => e = .returned (.bool true) ∧ Below w.heap.size w w' := by
  obtain ⟨l0, rfl, hr0, hm0, hw0, hc0⟩ := ReadsInt.ofRowC w0
  obtain ⟨l1, rfl, hr1, hm1, hw1, hc1⟩ := ReadsInt.ofRowC w1
  obtain ⟨k, h⟩ := P l0 l1 hm0 y0 hw0 hm1 y1 hw1
  refine (avocetlaw03_UtfBack.calls k _ _ l0 _ _ l1 true w hG (Kd.C_of_reads (d := (0 : Int)) (h1 := fun _ => rfl) hr0) hc0 (Kd.C_of_reads (d := (0 : Int)) (h1 := fun _ => rfl) hr1) hc1 rfl h).mono ?_
  rintro e w' ⟨rfl, hd⟩
  exact ⟨rfl, hd⟩

/-! ### avocetlaw03_UtfOne: function 5 -/
mutual
def avocetlaw03_UtfOne.j0 : Nat → Bool → Int → List Int → Int → Option (Bool)
  | 0, _, _, _, _ => none
  | k + 1, x3, x4, x5, x7 => if x4 ≥ 2048 then (avocetlaw03_UtfOne.j1 k x3 x4 x5 (wrap64 (x7 + 1))) else (avocetlaw03_UtfOne.j1 k x3 x4 x5 x7)
def avocetlaw03_UtfOne.j1 : Nat → Bool → Int → List Int → Int → Option (Bool)
  | 0, _, _, _, _ => none
  | k + 1, x3, x4, x5, x7 => if x4 ≥ 65536 then ((utf_Runes.f x5).bind fun bt227 => (if x3 = true then (if (x5.length : Int) = (wrap64 (x7 + 1)) then (if bt227.2 = true then ((avocetref03_Ints.f k bt227.1 (([x4] : List Int))).bind fun t234 => (if t234 = true then (some (decide (x4 ≤ 1114111))) else (some false))) else (some false)) else (some false)) else (some false))) else ((utf_Runes.f x5).bind fun bt235 => (if x3 = true then (if (x5.length : Int) = x7 then (if bt235.2 = true then ((avocetref03_Ints.f k bt235.1 (([x4] : List Int))).bind fun t242 => (if t242 = true then (some (decide (x4 ≤ 1114111))) else (some false))) else (some false)) else (some false)) else (some false)))
end
def avocetlaw03_UtfOne.f (k : Nat) (a0 : Int) : Option (Bool) := (avocetlaw03_awake.f).bind fun t219 => ((utf_FromRunes.f k (([Go.bits .and .i64 a0 2097151] : List Int))).bind fun bt223 => (if bt223.2 = true then (if (Go.bits .and .i64 a0 2097151) ≥ 128 then (avocetlaw03_UtfOne.j0 k t219 (Go.bits .and .i64 a0 2097151) bt223.1 (1 + 1)) else (avocetlaw03_UtfOne.j0 k t219 (Go.bits .and .i64 a0 2097151) bt223.1 1)) else (if t219 = true then (if (bt223.1.length : Int) = 0 then (if (Go.bits .and .i64 a0 2097151) > 1114111 then (some true) else (if (Go.bits .and .i64 a0 2097151) ≥ 55296 then (some (decide ((Go.bits .and .i64 a0 2097151) ≤ 57343))) else (some false))) else (some false)) else (some false))))
theorem avocetlaw03_UtfOne.mono_l : ∀ k, (∀ y0 y1 y2 y3, LeO (avocetlaw03_UtfOne.j0 k y0 y1 y2 y3) (avocetlaw03_UtfOne.j0 (k + 1) y0 y1 y2 y3)) ∧ (∀ y0 y1 y2 y3, LeO (avocetlaw03_UtfOne.j1 k y0 y1 y2 y3) (avocetlaw03_UtfOne.j1 (k + 1) y0 y1 y2 y3))
  | 0 => ⟨fun _ _ _ _ r h => by simp [avocetlaw03_UtfOne.j0] at h, fun _ _ _ _ r h => by simp [avocetlaw03_UtfOne.j1] at h⟩
  | k + 1 => by
    obtain ⟨ih0, ih1⟩ := avocetlaw03_UtfOne.mono_l k
    refine ⟨?_, ?_⟩
    · intro y0 y1 y2 y3
      unfold avocetlaw03_UtfOne.j0
      repeat' first
      | (with_reducible exact ih0 _ _ _ _)
      | (with_reducible exact ih1 _ _ _ _)
      | (with_reducible exact avocetref03_Ints.mono _ _ _)
      | (with_reducible exact utf_FromRunes.mono _ _)
      | (with_reducible exact LeO.refl _)
      | (with_reducible exact LeO.none _)
      | (with_reducible refine LeO.ite ?_ ?_)
      | (with_reducible refine LeO.bind ?_ (fun _ => ?_))
      | exact ih0 _ _ _ _
      | exact ih1 _ _ _ _
      | exact avocetref03_Ints.mono _ _ _
      | exact utf_FromRunes.mono _ _
      | exact LeO.none _
      | refine LeO.ite ?_ ?_
      | refine LeO.bind ?_ (fun _ => ?_)
    · intro y0 y1 y2 y3
      unfold avocetlaw03_UtfOne.j1
      repeat' first
      | (with_reducible exact ih0 _ _ _ _)
      | (with_reducible exact ih1 _ _ _ _)
      | (with_reducible exact avocetref03_Ints.mono _ _ _)
      | (with_reducible exact utf_FromRunes.mono _ _)
      | (with_reducible exact LeO.refl _)
      | (with_reducible exact LeO.none _)
      | (with_reducible refine LeO.ite ?_ ?_)
      | (with_reducible refine LeO.bind ?_ (fun _ => ?_))
      | exact ih0 _ _ _ _
      | exact ih1 _ _ _ _
      | exact avocetref03_Ints.mono _ _ _
      | exact utf_FromRunes.mono _ _
      | exact LeO.none _
      | refine LeO.ite ?_ ?_
      | refine LeO.bind ?_ (fun _ => ?_)
theorem avocetlaw03_UtfOne.mono : ∀ a0 k, LeO (avocetlaw03_UtfOne.f k a0) (avocetlaw03_UtfOne.f (k + 1) a0) := by
  intro a0 k
  obtain ⟨ih0, ih1⟩ := avocetlaw03_UtfOne.mono_l k
  unfold avocetlaw03_UtfOne.f
  repeat' first
      | (with_reducible exact ih0 _ _ _ _)
      | (with_reducible exact ih1 _ _ _ _)
      | (with_reducible exact avocetref03_Ints.mono _ _ _)
      | (with_reducible exact utf_FromRunes.mono _ _)
      | (with_reducible exact LeO.refl _)
      | (with_reducible exact LeO.none _)
      | (with_reducible refine LeO.ite ?_ ?_)
      | (with_reducible refine LeO.bind ?_ (fun _ => ?_))
      | exact ih0 _ _ _ _
      | exact ih1 _ _ _ _
      | exact avocetref03_Ints.mono _ _ _
      | exact utf_FromRunes.mono _ _
      | exact LeO.none _
      | refine LeO.ite ?_ ?_
      | refine LeO.bind ?_ (fun _ => ?_)
set_option maxHeartbeats 8000000 in
set_option maxRecDepth 100000 in
theorem avocetlaw03_UtfOne.calls (k : Nat) (a0 : Int) (r : Bool) (w : World) (hG : Globs w) (hr_ : r = true) (h : avocetlaw03_UtfOne.f k a0 = some r) :
    Calls Tryd.prog 5 #[.int .i64 a0] w fun e w' => e = .returned (.bool r) ∧ Below w.heap.size w w' := by
  have HRT_ := Aside0.mk hr_
  clear hr_
  have HG := Aside0.mk hG
  clear hG
  have HB := Aside0.mk (Below.refl w.heap.size w)
  have H : ((avocetlaw03_awake.f).bind fun t219 => ((utf_FromRunes.f k (([Go.bits .and .i64 a0 2097151] : List Int))).bind fun bt223 => (if bt223.2 = true then (if (Go.bits .and .i64 a0 2097151) ≥ 128 then (avocetlaw03_UtfOne.j0 k t219 (Go.bits .and .i64 a0 2097151) bt223.1 (1 + 1)) else (avocetlaw03_UtfOne.j0 k t219 (Go.bits .and .i64 a0 2097151) bt223.1 1)) else (if t219 = true then (if (bt223.1.length : Int) = 0 then (if (Go.bits .and .i64 a0 2097151) > 1114111 then (some true) else (if (Go.bits .and .i64 a0 2097151) ≥ 55296 then (some (decide ((Go.bits .and .i64 a0 2097151) ≤ 57343))) else (some false))) else (some false)) else (some false))))) = some r := h
  clear h
  replace H := Option.bind_eq_some_iff.mp H
  obtain ⟨t219, A20, H⟩ := H
  replace H : ((utf_FromRunes.f k (([Go.bits .and .i64 a0 2097151] : List Int))).bind fun bt223 => (if bt223.2 = true then (if (Go.bits .and .i64 a0 2097151) ≥ 128 then (avocetlaw03_UtfOne.j0 k t219 (Go.bits .and .i64 a0 2097151) bt223.1 (1 + 1)) else (avocetlaw03_UtfOne.j0 k t219 (Go.bits .and .i64 a0 2097151) bt223.1 1)) else (if t219 = true then (if (bt223.1.length : Int) = 0 then (if (Go.bits .and .i64 a0 2097151) > 1114111 then (some true) else (if (Go.bits .and .i64 a0 2097151) ≥ 55296 then (some (decide ((Go.bits .and .i64 a0 2097151) ≤ 57343))) else (some false))) else (some false)) else (some false)))) = some r := H
  have A2 := Aside0.mk A20
  clear A20
  obtain ⟨y220, hy220⟩ : ∃ y_ : List Int, y_ = (([Go.bits .and .i64 a0 2097151] : List Int)) := ⟨_, rfl⟩
  replace H : ((utf_FromRunes.f k y220).bind fun bt223 => (if bt223.2 = true then (if (Go.bits .and .i64 a0 2097151) ≥ 128 then (avocetlaw03_UtfOne.j0 k t219 (Go.bits .and .i64 a0 2097151) bt223.1 (1 + 1)) else (avocetlaw03_UtfOne.j0 k t219 (Go.bits .and .i64 a0 2097151) bt223.1 1)) else (if t219 = true then (if (bt223.1.length : Int) = 0 then (if (Go.bits .and .i64 a0 2097151) > 1114111 then (some true) else (if (Go.bits .and .i64 a0 2097151) ≥ 55296 then (some (decide ((Go.bits .and .i64 a0 2097151) ≤ 57343))) else (some false))) else (some false)) else (some false)))) = some r := by first | (rw [hy220]; with_reducible exact H) | (have H2_ := (Option.bind_some _ _).symm.trans H; rw [hy220]; with_reducible exact H2_) | (have H2_ := (Option.bind_some _ _).symm.trans H; with_reducible exact H2_) | with_reducible exact H | (rw [hy220]; exact H) | exact H
  have Ny220 := Aside0.mk hy220
  clear hy220
  replace H := Option.bind_eq_some_iff.mp H
  obtain ⟨⟨t223, t224⟩, A30, H⟩ := H
  replace H : (if t224 = true then (if (Go.bits .and .i64 a0 2097151) ≥ 128 then (avocetlaw03_UtfOne.j0 k t219 (Go.bits .and .i64 a0 2097151) t223 (1 + 1)) else (avocetlaw03_UtfOne.j0 k t219 (Go.bits .and .i64 a0 2097151) t223 1)) else (if t219 = true then (if (t223.length : Int) = 0 then (if (Go.bits .and .i64 a0 2097151) > 1114111 then (some true) else (if (Go.bits .and .i64 a0 2097151) ≥ 55296 then (some (decide ((Go.bits .and .i64 a0 2097151) ≤ 57343))) else (some false))) else (some false)) else (some false))) = some r := H
  have A3 := Aside0.mk A30
  clear A30
  by_cases c4 : t224 = true
  · subst c4
    have H1 : (if (Go.bits .and .i64 a0 2097151) ≥ 128 then (avocetlaw03_UtfOne.j0 k t219 (Go.bits .and .i64 a0 2097151) t223 (1 + 1)) else (avocetlaw03_UtfOne.j0 k t219 (Go.bits .and .i64 a0 2097151) t223 1)) = some r := by rw [if_pos rfl] at H; exact H
    clear H
    have H := H1
    clear H1
    have HC5 := Aside0.mk H
    clear H
    go_enter Tryd.func5, Tryd.ntmps5
    go_upto_if 40 with (first | ((with_reducible refine gate_callee (f := 9) rfl ?_); refine goesL_ (some 10) rfl rfl Tryd.func9 (by kernel_rfl) rfl #[] rfl (by (try simp only [List.map_toArray, List.map_cons, List.map_nil]); first | done | rfl | (simp only [List.length_drop, List.length_take]; rfl)) ?_; (with_reducible refine (avocetlaw03_awake.calls  t219 _ ?side1 A2.out).mono ?_); (case side1 => first | exact Globs.below HG.out HB.out | exact Globs.below HG.out (by repeat (first | (with_reducible first | exact HB.out | apply below_alloc | apply pw_below_drewN | apply below_drew1) | exact HB.out)) | (repeat (first | exact HG.out | (with_reducible refine Globs.alloc ?_ _) | (with_reducible refine Globs.drewN ?_ _) | (with_reducible refine Globs.drew ?_)))); rintro e w6 ⟨rfl, hb⟩; refine ⟨_, rfl, ?_⟩; have n0_ := Aside0.mk (below_step (by repeat (first | (with_reducible first | exact HB.out | apply below_alloc | apply pw_below_drewN | apply below_drew1) | exact HB.out)) hb); clear HB; have HB := n0_; clear n0_; (try clear hb); (try clear hb2); (try clear hk); (try clear hi)) | ((with_reducible refine gate_dst (N := 15) rfl ?_); (try (refine gate_guard (by rfl) ?_; dsimp only)); refine Kd.R_lit (Kd.int .i64) _ 3 ?hg (N := 15) ?hd (xs := ([Go.bits .and .i64 a0 2097151] : List Int)) (inner := [.int .i64 (Go.bits .and .i64 a0 2097151)]) (ok := fun _ => True) (okp := fun _ => True) ?hr ?hp (fun _ hk => hk) trivial (Below.refl _ _) (Nat.le_refl _) (by simp) ?_; (case hd => rfl); (case hg => rfl); (case hr => first | (go_simp; done) | (go_simp; rfl) | (go_simp; simp only [u8tail]; done)); (case hp => exact (Reps.one (show Kd.M (Kd.int .i64) _ _ _ (Go.bits .and .i64 a0 2097151) [.int .i64 (Go.bits .and .i64 a0 2097151)] from rfl) (Reps.none _ _))); intro v221 w7 ho8 hb hg_ hnew_; clear hg_ hnew_; (first | rw [← Ny220.out] at ho8 | (simp only [Int.reduceToNat] at ho8; rw [← Ny220.out] at ho8)); have n0_ := Aside0.mk (Kd.R_lower ho8 (below_size (by repeat (first | (with_reducible first | exact HB.out | apply below_alloc | apply pw_below_drewN | apply below_drew1) | exact HB.out)))); have n1_ := Aside0.mk (below_step (by repeat (first | (with_reducible first | exact HB.out | apply below_alloc | apply pw_below_drewN | apply below_drew1) | exact HB.out)) hb); clear HB; have HO222 := n0_; have HB := n1_; clear n0_ n1_; clear hb ho8; obtain ⟨Ao9, co9, eo9⟩ := Kd.R_slice HO222.out; subst eo9) | ((with_reducible refine gate_callee (f := 12) rfl ?_); refine goesL_ (some 16) rfl rfl Tryd.func12 (by kernel_rfl) rfl #[.slice Ao9 y220.length co9] rfl (by (try simp only [List.map_toArray, List.map_cons, List.map_nil]); first | done | rfl | (simp only [List.length_drop, List.length_take]; rfl)) ?_; (with_reducible refine (utf_FromRunes.calls k _ _ y220 t223 true _ ?side1 ?side2 A3.out).mono ?_); (case side1 => repeat (first | exact (Kd.R_reads' HO222.out).2.2 | (with_reducible refine Kd.C_alloc ?_ _) | (with_reducible refine Kd.C_drewN ?_ _) | (with_reducible refine Kd.C_drew ?_))); (case side2 => exact (Kd.R_reads' HO222.out).2.1); rintro e w10 ⟨v225, rfl, ho0, hb⟩; refine ⟨_, rfl, ?_⟩; have n0_ := Aside0.mk (Kd.R_below (by (with_reducible repeat (first | apply Kd.R_alloc | apply Kd.R_drewN | apply Kd.R_drew)); exact HO222.out) hb); have n1_ := Aside0.mk (Kd.R_lower ho0 (below_size (by repeat (first | (with_reducible first | exact HB.out | apply below_alloc | apply pw_below_drewN | apply below_drew1) | exact HB.out)))); have n2_ := Aside0.mk (below_step (by repeat (first | (with_reducible first | exact HB.out | apply below_alloc | apply pw_below_drewN | apply below_drew1) | exact HB.out)) hb); clear HO222; clear HB; have HO222 := n0_; have HO226 := n1_; have HB := n2_; clear n0_ n1_ n2_; (try clear hb); (try clear hb2); (try clear hk); (try clear hi); (try clear ho0)))
    (try simp only [Act.put, List.setIfInBounds_toArray, List.set_cons_zero, List.set_cons_succ])
    go_cut [7] (fun v7 wc => ∃ (kq : Nat) (x7_4 : Int), v7 = .int .i64 x7_4 ∧ Aside0 (avocetlaw03_UtfOne.j0 kq t219 (Go.bits .and .i64 a0 2097151) t223 x7_4 = some r) ∧ Aside0 (kq ≤ k) ∧ Aside0 (Kd.R (Kd.int .u8) 5 wc w.heap.size (fun _ => True) v225 t223) ∧ Aside0 (Below w.heap.size w wc))
    case first =>
      have H := HC5.out
      clear HC5
      by_cases c11 : (Go.bits .and .i64 a0 2097151) ≥ 128
      · rw [if_pos c11] at H
        have c11b0 : decide (128 ≤ (Go.bits .and .i64 a0 2097151)) = true := decide_eq_true c11
        clear c11
        (first | rw [c11b0] | (simp only [i64_w, i32_w]; rw [c11b0]) | skip)
        have H' := Aside0.mk H
        clear H
        go_wp2
        go_meet
        case rel => exact ⟨_, (1 + 1), (by first | rfl | (simp; done) | (simp [*]; done)), H', ⟨by first | omega | exact Nat.le_refl _⟩, ⟨by (with_reducible repeat (first | apply Kd.R_alloc | apply Kd.R_drewN | apply Kd.R_drew)); exact HO226.out⟩, ⟨by repeat (first | (with_reducible first | exact HB.out | apply below_alloc | apply pw_below_drewN | apply below_drew1) | exact HB.out)⟩⟩
      · rw [if_neg c11] at H
        have c11b0 : decide (128 ≤ (Go.bits .and .i64 a0 2097151)) = false := decide_eq_false c11
        clear c11
        (first | rw [c11b0] | (simp only [i64_w, i32_w]; rw [c11b0]) | skip)
        have H' := Aside0.mk H
        clear H
        go_wp2
        go_meet
        case rel => exact ⟨_, (1), (by first | rfl | (simp; done) | (simp [*]; done)), H', ⟨by first | omega | exact Nat.le_refl _⟩, ⟨by (with_reducible repeat (first | apply Kd.R_alloc | apply Kd.R_drewN | apply Kd.R_drew)); exact HO226.out⟩, ⟨by repeat (first | (with_reducible first | exact HB.out | apply below_alloc | apply pw_below_drewN | apply below_drew1) | exact HB.out)⟩⟩
    case rest =>
      clear HC5
      try clear c1
      try clear p2
      try clear c4
      try clear c5
      try clear c9
      try clear c11
      try clear c11b0
      obtain ⟨kq, x7_4, rfl, HA, HJ4, HO_5, HB⟩ := hcut
      cases kq with
      | zero => exact absurd HA.out (by simp [avocetlaw03_UtfOne.j0])
      | succ kj4 =>
        have H := HA.out
        clear HA
        simp only [avocetlaw03_UtfOne.j0] at H
        have HC12 := Aside0.mk H
        clear H
        go_upto_if 44 with (fail)
        go_cut [7] (fun v7 wc => ∃ (kq : Nat) (x7_11 : Int), v7 = .int .i64 x7_11 ∧ Aside0 (avocetlaw03_UtfOne.j1 kq t219 (Go.bits .and .i64 a0 2097151) t223 x7_11 = some r) ∧ Aside0 (kq ≤ kj4) ∧ Aside0 (Kd.R (Kd.int .u8) 5 wc w.heap.size (fun _ => True) v225 t223) ∧ Aside0 (Below w.heap.size w wc))
        case first =>
          have H := HC12.out
          clear HC12
          by_cases c13 : (Go.bits .and .i64 a0 2097151) ≥ 2048
          · rw [if_pos c13] at H
            have c13b0 : decide (2048 ≤ (Go.bits .and .i64 a0 2097151)) = true := decide_eq_true c13
            clear c13
            (first | rw [c13b0] | (simp only [i64_w, i32_w]; rw [c13b0]) | skip)
            have H' := Aside0.mk H
            clear H
            go_wp2
            go_meet
            case rel => exact ⟨_, (wrap64 (x7_4 + 1)), (by first | rfl | (simp; done) | (simp [*]; done)), H', ⟨by have := HJ4.out; first | omega | exact Nat.le_refl _⟩, ⟨by (with_reducible repeat (first | apply Kd.R_alloc | apply Kd.R_drewN | apply Kd.R_drew)); exact HO_5.out⟩, ⟨by repeat (first | (with_reducible first | exact HB.out | apply below_alloc | apply pw_below_drewN | apply below_drew1) | exact HB.out)⟩⟩
          · rw [if_neg c13] at H
            have c13b0 : decide (2048 ≤ (Go.bits .and .i64 a0 2097151)) = false := decide_eq_false c13
            clear c13
            (first | rw [c13b0] | (simp only [i64_w, i32_w]; rw [c13b0]) | skip)
            have H' := Aside0.mk H
            clear H
            go_wp2
            go_meet
            case rel => exact ⟨_, (x7_4), (by first | rfl | (simp; done) | (simp [*]; done)), H', ⟨by have := HJ4.out; first | omega | exact Nat.le_refl _⟩, ⟨by (with_reducible repeat (first | apply Kd.R_alloc | apply Kd.R_drewN | apply Kd.R_drew)); exact HO_5.out⟩, ⟨by repeat (first | (with_reducible first | exact HB.out | apply below_alloc | apply pw_below_drewN | apply below_drew1) | exact HB.out)⟩⟩
        case rest =>
          clear HC12
          try clear c1
          try clear p2
          try clear c4
          try clear c5
          try clear p6
          try clear c9
          try clear c11
          try clear c11b0
          try clear c12
          try clear c13
          try clear c13b0
          try clear p2
          obtain ⟨kq, x7_11, rfl, HA, HJ11, HO_5, HB⟩ := hcut
          cases kq with
          | zero => exact absurd HA.out (by simp [avocetlaw03_UtfOne.j1])
          | succ kj11 =>
            have H := HA.out
            clear HA
            simp only [avocetlaw03_UtfOne.j1] at H
            by_cases c14 : (Go.bits .and .i64 a0 2097151) ≥ 65536
            · rw [if_pos c14] at H
              have c14b0 : decide (65536 ≤ (Go.bits .and .i64 a0 2097151)) = true := decide_eq_true c14
              clear c14
              replace H := Option.bind_eq_some_iff.mp H
              obtain ⟨⟨t227, t228⟩, A150, H⟩ := H
              replace H : (if t219 = true then (if (t223.length : Int) = (wrap64 (x7_11 + 1)) then (if t228 = true then ((avocetref03_Ints.f kj11 t227 (([(Go.bits .and .i64 a0 2097151)] : List Int))).bind fun t234 => (if t234 = true then (some (decide ((Go.bits .and .i64 a0 2097151) ≤ 1114111))) else (some false))) else (some false)) else (some false)) else (some false)) = some r := H
              have A15 := Aside0.mk A150
              clear A150
              by_cases c16 : t219 = true
              · subst c16
                have H1 : (if (t223.length : Int) = (wrap64 (x7_11 + 1)) then (if t228 = true then ((avocetref03_Ints.f kj11 t227 (([(Go.bits .and .i64 a0 2097151)] : List Int))).bind fun t234 => (if t234 = true then (some (decide ((Go.bits .and .i64 a0 2097151) ≤ 1114111))) else (some false))) else (some false)) else (some false)) = some r := by rw [if_pos rfl] at H; exact H
                clear H
                have H := H1
                clear H1
                by_cases c17 : (t223.length : Int) = (wrap64 (x7_11 + 1))
                · rw [if_pos c17] at H
                  have c17b0 : ((t223.length : Int) == (wrap64 (x7_11 + 1))) = true := beq_iff_eq.mpr c17
                  have c17b1 : ((t223.length : Int) != (wrap64 (x7_11 + 1))) = false := bne_eq_false_iff_eq.mpr c17
                  clear c17
                  by_cases c18 : t228 = true
                  · subst c18
                    have H1 : ((avocetref03_Ints.f kj11 t227 (([(Go.bits .and .i64 a0 2097151)] : List Int))).bind fun t234 => (if t234 = true then (some (decide ((Go.bits .and .i64 a0 2097151) ≤ 1114111))) else (some false))) = some r := by rw [if_pos rfl] at H; exact H
                    clear H
                    have H := H1
                    clear H1
                    obtain ⟨y231, hy231⟩ : ∃ y_ : List Int, y_ = (([(Go.bits .and .i64 a0 2097151)] : List Int)) := ⟨_, rfl⟩
                    replace H : ((avocetref03_Ints.f kj11 t227 y231).bind fun t234 => (if t234 = true then (some (decide ((Go.bits .and .i64 a0 2097151) ≤ 1114111))) else (some false))) = some r := by first | (rw [hy231]; with_reducible exact H) | (have H2_ := (Option.bind_some _ _).symm.trans H; rw [hy231]; with_reducible exact H2_) | (have H2_ := (Option.bind_some _ _).symm.trans H; with_reducible exact H2_) | with_reducible exact H | (rw [hy231]; exact H) | exact H
                    have Ny231 := Aside0.mk hy231
                    clear hy231
                    replace H := Option.bind_eq_some_iff.mp H
                    obtain ⟨t234, A190, H⟩ := H
                    replace H : (if t234 = true then (some (decide ((Go.bits .and .i64 a0 2097151) ≤ 1114111))) else (some false)) = some r := H
                    have A19 := Aside0.mk A190
                    clear A190
                    by_cases c20 : t234 = true
                    · subst c20
                      have H1 : (some (decide ((Go.bits .and .i64 a0 2097151) ≤ 1114111))) = some r := by rw [if_pos rfl] at H; exact H
                      clear H
                      have H := H1
                      clear H1
                      obtain rfl := Option.some.inj H
                      obtain ⟨Ao21, co21, eo21⟩ := Kd.R_slice HO_5.out
                      subst eo21
                      go_wp2_with (first | ((with_reducible refine gate_callee (f := 10) rfl ?_); refine goesL_ (some 53) rfl rfl Tryd.func10 (by kernel_rfl) rfl #[.slice Ao21 t223.length co21] rfl (by (try simp only [List.map_toArray, List.map_cons, List.map_nil]); first | done | rfl | (simp only [List.length_drop, List.length_take]; rfl)) ?_; (with_reducible refine (utf_Runes.calls _ _ t223 t227 true _ ?side3 ?side1 ?side2 A15.out).mono ?_); (case side1 => repeat (first | exact (Kd.R_reads' HO_5.out).2.2 | (with_reducible refine Kd.C_alloc ?_ _) | (with_reducible refine Kd.C_drewN ?_ _) | (with_reducible refine Kd.C_drew ?_))); (case side2 => exact (Kd.R_reads' HO_5.out).2.1); (case side3 => first | exact Globs.below HG.out HB.out | exact Globs.below HG.out (by repeat (first | (with_reducible first | exact HB.out | apply below_alloc | apply pw_below_drewN | apply below_drew1) | exact HB.out)) | (repeat (first | exact HG.out | (with_reducible refine Globs.alloc ?_ _) | (with_reducible refine Globs.drewN ?_ _) | (with_reducible refine Globs.drew ?_)))); rintro e w22 ⟨v229, rfl, ho0, hb⟩; refine ⟨_, rfl, ?_⟩; have n0_ := Aside0.mk (Kd.R_below (by (with_reducible repeat (first | apply Kd.R_alloc | apply Kd.R_drewN | apply Kd.R_drew)); exact HO_5.out) hb); have n1_ := Aside0.mk (Kd.R_lower ho0 (below_size (by repeat (first | (with_reducible first | exact HB.out | apply below_alloc | apply pw_below_drewN | apply below_drew1) | exact HB.out)))); have n2_ := Aside0.mk (below_step (by repeat (first | (with_reducible first | exact HB.out | apply below_alloc | apply pw_below_drewN | apply below_drew1) | exact HB.out)) hb); clear HO_5; clear HB; have HO_5 := n0_; have HO230 := n1_; have HB := n2_; clear n0_ n1_ n2_; (try clear hb); (try clear hb2); (try clear hk); (try clear hi); (try clear ho0)) | ((with_reducible refine gate_dst (N := 69) rfl ?_); (try (refine gate_guard (by rfl) ?_; dsimp only)); refine Kd.R_lit (Kd.int .i64) _ 3 ?hg (N := 69) ?hd (xs := ([(Go.bits .and .i64 a0 2097151)] : List Int)) (inner := [.int .i64 (Go.bits .and .i64 a0 2097151)]) (ok := fun _ => True) (okp := fun _ => True) ?hr ?hp (fun _ hk => hk) trivial (Below.refl _ _) (Nat.le_refl _) (by simp) ?_; (case hd => rfl); (case hg => rfl); (case hr => first | (go_simp; done) | (go_simp; rfl) | (go_simp; simp only [u8tail]; done)); (case hp => exact (Reps.one (show Kd.M (Kd.int .i64) _ _ _ (Go.bits .and .i64 a0 2097151) [.int .i64 (Go.bits .and .i64 a0 2097151)] from rfl) (Reps.none _ _))); intro v232 w23 ho24 hb hg_ hnew_; clear hg_ hnew_; (first | rw [← Ny231.out] at ho24 | (simp only [Int.reduceToNat] at ho24; rw [← Ny231.out] at ho24)); have n0_ := Aside0.mk (Kd.R_below (by (with_reducible repeat (first | apply Kd.R_alloc | apply Kd.R_drewN | apply Kd.R_drew)); exact HO_5.out) hb); have n1_ := Aside0.mk (Kd.R_elder' (by (with_reducible repeat (first | apply Kd.R_alloc | apply Kd.R_drewN | apply Kd.R_drew)); exact HO230.out) (Kd.R_base ho24) hb); have n2_ := Aside0.mk (Kd.R_lower (Kd.R_new' ho24 (Kd.R_lt (by (with_reducible repeat (first | apply Kd.R_alloc | apply Kd.R_drewN | apply Kd.R_drew)); exact HO230.out))) (below_size (by repeat (first | (with_reducible first | exact HB.out | apply below_alloc | apply pw_below_drewN | apply below_drew1) | exact HB.out)))); have n3_ := Aside0.mk (below_step (by repeat (first | (with_reducible first | exact HB.out | apply below_alloc | apply pw_below_drewN | apply below_drew1) | exact HB.out)) hb); clear HO_5; clear HO230; clear HB; have HO_5 := n0_; have HO230 := n1_; have HO233 := n2_; have HB := n3_; clear n0_ n1_ n2_ n3_; clear hb ho24; obtain ⟨Ao25, co25, eo25⟩ := Kd.R_slice HO230.out; subst eo25; obtain ⟨Ao26, co26, eo26⟩ := Kd.R_slice HO233.out; subst eo26) | (go_at_call 11; (with_reducible refine (avocetref03_Ints.calls kj11 _ _ t227 _ _ y231 true _ ?side1 ?side2 ?side3 ?side4 A19.out).mono ?_); (case side1 => repeat (first | exact (Kd.R_reads' HO230.out).2.2 | (with_reducible refine Kd.C_alloc ?_ _) | (with_reducible refine Kd.C_drewN ?_ _) | (with_reducible refine Kd.C_drew ?_))); (case side2 => exact (Kd.R_reads' HO230.out).2.1); (case side3 => repeat (first | exact (Kd.R_reads' HO233.out).2.2 | (with_reducible refine Kd.C_alloc ?_ _) | (with_reducible refine Kd.C_drewN ?_ _) | (with_reducible refine Kd.C_drew ?_))); (case side4 => exact (Kd.R_reads' HO233.out).2.1); rintro e w' ⟨rfl, ⟨nd, rfl⟩⟩))
                      go_ret
                      exact ⟨by first | rfl | (simp [errW_none, errW_some] <;> rfl) | (simp [*, errW_none, errW_some] <;> rfl), by repeat (first | (with_reducible first | exact HB.out | apply below_alloc | apply pw_below_drewN | apply below_drew1) | exact HB.out)⟩
                    · replace c20 := Bool.eq_false_iff.mpr c20
                      subst c20
                      have H1 : (some false) = some r := by rw [if_neg (show ¬ (false = true) by decide)] at H; exact H
                      clear H
                      have H := H1
                      clear H1
                      exact absurd ((Option.some.inj H).trans HRT_.out) (by decide)
                  · replace c18 := Bool.eq_false_iff.mpr c18
                    subst c18
                    have H1 : (some false) = some r := by rw [if_neg (show ¬ (false = true) by decide)] at H; exact H
                    clear H
                    have H := H1
                    clear H1
                    exact absurd ((Option.some.inj H).trans HRT_.out) (by decide)
                · rw [if_neg c17] at H
                  have c17b0 : ((t223.length : Int) == (wrap64 (x7_11 + 1))) = false := beq_eq_false_iff_ne.mpr c17
                  have c17b1 : ((t223.length : Int) != (wrap64 (x7_11 + 1))) = true := bne_iff_ne.mpr c17
                  exact absurd ((Option.some.inj H).trans HRT_.out) (by decide)
              · replace c16 := Bool.eq_false_iff.mpr c16
                subst c16
                have H1 : (some false) = some r := by rw [if_neg (show ¬ (false = true) by decide)] at H; exact H
                clear H
                have H := H1
                clear H1
                exact absurd ((Option.some.inj H).trans HRT_.out) (by decide)
            · rw [if_neg c14] at H
              have c14b0 : decide (65536 ≤ (Go.bits .and .i64 a0 2097151)) = false := decide_eq_false c14
              clear c14
              replace H := Option.bind_eq_some_iff.mp H
              obtain ⟨⟨t235, t236⟩, A270, H⟩ := H
              replace H : (if t219 = true then (if (t223.length : Int) = x7_11 then (if t236 = true then ((avocetref03_Ints.f kj11 t235 (([(Go.bits .and .i64 a0 2097151)] : List Int))).bind fun t242 => (if t242 = true then (some (decide ((Go.bits .and .i64 a0 2097151) ≤ 1114111))) else (some false))) else (some false)) else (some false)) else (some false)) = some r := H
              have A27 := Aside0.mk A270
              clear A270
              by_cases c28 : t219 = true
              · subst c28
                have H1 : (if (t223.length : Int) = x7_11 then (if t236 = true then ((avocetref03_Ints.f kj11 t235 (([(Go.bits .and .i64 a0 2097151)] : List Int))).bind fun t242 => (if t242 = true then (some (decide ((Go.bits .and .i64 a0 2097151) ≤ 1114111))) else (some false))) else (some false)) else (some false)) = some r := by rw [if_pos rfl] at H; exact H
                clear H
                have H := H1
                clear H1
                by_cases c29 : (t223.length : Int) = x7_11
                · rw [if_pos c29] at H
                  have c29b0 : ((t223.length : Int) == x7_11) = true := beq_iff_eq.mpr c29
                  have c29b1 : ((t223.length : Int) != x7_11) = false := bne_eq_false_iff_eq.mpr c29
                  clear c29
                  by_cases c30 : t236 = true
                  · subst c30
                    have H1 : ((avocetref03_Ints.f kj11 t235 (([(Go.bits .and .i64 a0 2097151)] : List Int))).bind fun t242 => (if t242 = true then (some (decide ((Go.bits .and .i64 a0 2097151) ≤ 1114111))) else (some false))) = some r := by rw [if_pos rfl] at H; exact H
                    clear H
                    have H := H1
                    clear H1
                    obtain ⟨y239, hy239⟩ : ∃ y_ : List Int, y_ = (([(Go.bits .and .i64 a0 2097151)] : List Int)) := ⟨_, rfl⟩
                    replace H : ((avocetref03_Ints.f kj11 t235 y239).bind fun t242 => (if t242 = true then (some (decide ((Go.bits .and .i64 a0 2097151) ≤ 1114111))) else (some false))) = some r := by first | (rw [hy239]; with_reducible exact H) | (have H2_ := (Option.bind_some _ _).symm.trans H; rw [hy239]; with_reducible exact H2_) | (have H2_ := (Option.bind_some _ _).symm.trans H; with_reducible exact H2_) | with_reducible exact H | (rw [hy239]; exact H) | exact H
                    have Ny239 := Aside0.mk hy239
                    clear hy239
                    replace H := Option.bind_eq_some_iff.mp H
                    obtain ⟨t242, A310, H⟩ := H
                    replace H : (if t242 = true then (some (decide ((Go.bits .and .i64 a0 2097151) ≤ 1114111))) else (some false)) = some r := H
                    have A31 := Aside0.mk A310
                    clear A310
                    by_cases c32 : t242 = true
                    · subst c32
                      have H1 : (some (decide ((Go.bits .and .i64 a0 2097151) ≤ 1114111))) = some r := by rw [if_pos rfl] at H; exact H
                      clear H
                      have H := H1
                      clear H1
                      obtain rfl := Option.some.inj H
                      obtain ⟨Ao33, co33, eo33⟩ := Kd.R_slice HO_5.out
                      subst eo33
                      go_wp2_with (first | ((with_reducible refine gate_callee (f := 10) rfl ?_); refine goesL_ (some 53) rfl rfl Tryd.func10 (by kernel_rfl) rfl #[.slice Ao33 t223.length co33] rfl (by (try simp only [List.map_toArray, List.map_cons, List.map_nil]); first | done | rfl | (simp only [List.length_drop, List.length_take]; rfl)) ?_; (with_reducible refine (utf_Runes.calls _ _ t223 t235 true _ ?side3 ?side1 ?side2 A27.out).mono ?_); (case side1 => repeat (first | exact (Kd.R_reads' HO_5.out).2.2 | (with_reducible refine Kd.C_alloc ?_ _) | (with_reducible refine Kd.C_drewN ?_ _) | (with_reducible refine Kd.C_drew ?_))); (case side2 => exact (Kd.R_reads' HO_5.out).2.1); (case side3 => first | exact Globs.below HG.out HB.out | exact Globs.below HG.out (by repeat (first | (with_reducible first | exact HB.out | apply below_alloc | apply pw_below_drewN | apply below_drew1) | exact HB.out)) | (repeat (first | exact HG.out | (with_reducible refine Globs.alloc ?_ _) | (with_reducible refine Globs.drewN ?_ _) | (with_reducible refine Globs.drew ?_)))); rintro e w34 ⟨v237, rfl, ho0, hb⟩; refine ⟨_, rfl, ?_⟩; have n0_ := Aside0.mk (Kd.R_below (by (with_reducible repeat (first | apply Kd.R_alloc | apply Kd.R_drewN | apply Kd.R_drew)); exact HO_5.out) hb); have n1_ := Aside0.mk (Kd.R_lower ho0 (below_size (by repeat (first | (with_reducible first | exact HB.out | apply below_alloc | apply pw_below_drewN | apply below_drew1) | exact HB.out)))); have n2_ := Aside0.mk (below_step (by repeat (first | (with_reducible first | exact HB.out | apply below_alloc | apply pw_below_drewN | apply below_drew1) | exact HB.out)) hb); clear HO_5; clear HB; have HO_5 := n0_; have HO238 := n1_; have HB := n2_; clear n0_ n1_ n2_; (try clear hb); (try clear hb2); (try clear hk); (try clear hi); (try clear ho0)) | ((with_reducible refine gate_dst (N := 69) rfl ?_); (try (refine gate_guard (by rfl) ?_; dsimp only)); refine Kd.R_lit (Kd.int .i64) _ 3 ?hg (N := 69) ?hd (xs := ([(Go.bits .and .i64 a0 2097151)] : List Int)) (inner := [.int .i64 (Go.bits .and .i64 a0 2097151)]) (ok := fun _ => True) (okp := fun _ => True) ?hr ?hp (fun _ hk => hk) trivial (Below.refl _ _) (Nat.le_refl _) (by simp) ?_; (case hd => rfl); (case hg => rfl); (case hr => first | (go_simp; done) | (go_simp; rfl) | (go_simp; simp only [u8tail]; done)); (case hp => exact (Reps.one (show Kd.M (Kd.int .i64) _ _ _ (Go.bits .and .i64 a0 2097151) [.int .i64 (Go.bits .and .i64 a0 2097151)] from rfl) (Reps.none _ _))); intro v240 w35 ho36 hb hg_ hnew_; clear hg_ hnew_; (first | rw [← Ny239.out] at ho36 | (simp only [Int.reduceToNat] at ho36; rw [← Ny239.out] at ho36)); have n0_ := Aside0.mk (Kd.R_below (by (with_reducible repeat (first | apply Kd.R_alloc | apply Kd.R_drewN | apply Kd.R_drew)); exact HO_5.out) hb); have n1_ := Aside0.mk (Kd.R_elder' (by (with_reducible repeat (first | apply Kd.R_alloc | apply Kd.R_drewN | apply Kd.R_drew)); exact HO238.out) (Kd.R_base ho36) hb); have n2_ := Aside0.mk (Kd.R_lower (Kd.R_new' ho36 (Kd.R_lt (by (with_reducible repeat (first | apply Kd.R_alloc | apply Kd.R_drewN | apply Kd.R_drew)); exact HO238.out))) (below_size (by repeat (first | (with_reducible first | exact HB.out | apply below_alloc | apply pw_below_drewN | apply below_drew1) | exact HB.out)))); have n3_ := Aside0.mk (below_step (by repeat (first | (with_reducible first | exact HB.out | apply below_alloc | apply pw_below_drewN | apply below_drew1) | exact HB.out)) hb); clear HO_5; clear HO238; clear HB; have HO_5 := n0_; have HO238 := n1_; have HO241 := n2_; have HB := n3_; clear n0_ n1_ n2_ n3_; clear hb ho36; obtain ⟨Ao37, co37, eo37⟩ := Kd.R_slice HO238.out; subst eo37; obtain ⟨Ao38, co38, eo38⟩ := Kd.R_slice HO241.out; subst eo38) | (go_at_call 11; (with_reducible refine (avocetref03_Ints.calls kj11 _ _ t235 _ _ y239 true _ ?side1 ?side2 ?side3 ?side4 A31.out).mono ?_); (case side1 => repeat (first | exact (Kd.R_reads' HO238.out).2.2 | (with_reducible refine Kd.C_alloc ?_ _) | (with_reducible refine Kd.C_drewN ?_ _) | (with_reducible refine Kd.C_drew ?_))); (case side2 => exact (Kd.R_reads' HO238.out).2.1); (case side3 => repeat (first | exact (Kd.R_reads' HO241.out).2.2 | (with_reducible refine Kd.C_alloc ?_ _) | (with_reducible refine Kd.C_drewN ?_ _) | (with_reducible refine Kd.C_drew ?_))); (case side4 => exact (Kd.R_reads' HO241.out).2.1); rintro e w' ⟨rfl, ⟨nd, rfl⟩⟩))
                      go_ret
                      exact ⟨by first | rfl | (simp [errW_none, errW_some] <;> rfl) | (simp [*, errW_none, errW_some] <;> rfl), by repeat (first | (with_reducible first | exact HB.out | apply below_alloc | apply pw_below_drewN | apply below_drew1) | exact HB.out)⟩
                    · replace c32 := Bool.eq_false_iff.mpr c32
                      subst c32
                      have H1 : (some false) = some r := by rw [if_neg (show ¬ (false = true) by decide)] at H; exact H
                      clear H
                      have H := H1
                      clear H1
                      exact absurd ((Option.some.inj H).trans HRT_.out) (by decide)
                  · replace c30 := Bool.eq_false_iff.mpr c30
                    subst c30
                    have H1 : (some false) = some r := by rw [if_neg (show ¬ (false = true) by decide)] at H; exact H
                    clear H
                    have H := H1
                    clear H1
                    exact absurd ((Option.some.inj H).trans HRT_.out) (by decide)
                · rw [if_neg c29] at H
                  have c29b0 : ((t223.length : Int) == x7_11) = false := beq_eq_false_iff_ne.mpr c29
                  have c29b1 : ((t223.length : Int) != x7_11) = true := bne_iff_ne.mpr c29
                  exact absurd ((Option.some.inj H).trans HRT_.out) (by decide)
              · replace c28 := Bool.eq_false_iff.mpr c28
                subst c28
                have H1 : (some false) = some r := by rw [if_neg (show ¬ (false = true) by decide)] at H; exact H
                clear H
                have H := H1
                clear H1
                exact absurd ((Option.some.inj H).trans HRT_.out) (by decide)
  · replace c4 := Bool.eq_false_iff.mpr c4
    subst c4
    have H1 : (if t219 = true then (if (t223.length : Int) = 0 then (if (Go.bits .and .i64 a0 2097151) > 1114111 then (some true) else (if (Go.bits .and .i64 a0 2097151) ≥ 55296 then (some (decide ((Go.bits .and .i64 a0 2097151) ≤ 57343))) else (some false))) else (some false)) else (some false)) = some r := by rw [if_neg (show ¬ (false = true) by decide)] at H; exact H
    clear H
    have H := H1
    clear H1
    by_cases c39 : t219 = true
    · subst c39
      have H1 : (if (t223.length : Int) = 0 then (if (Go.bits .and .i64 a0 2097151) > 1114111 then (some true) else (if (Go.bits .and .i64 a0 2097151) ≥ 55296 then (some (decide ((Go.bits .and .i64 a0 2097151) ≤ 57343))) else (some false))) else (some false)) = some r := by rw [if_pos rfl] at H; exact H
      clear H
      have H := H1
      clear H1
      by_cases c40 : (t223.length : Int) = 0
      · rw [if_pos c40] at H
        have c40b0 : ((t223.length : Int) == 0) = true := beq_iff_eq.mpr c40
        have c40b1 : ((t223.length : Int) != 0) = false := bne_eq_false_iff_eq.mpr c40
        clear c40
        by_cases c41 : (Go.bits .and .i64 a0 2097151) > 1114111
        · rw [if_pos c41] at H
          have c41b0 : decide (1114111 < (Go.bits .and .i64 a0 2097151)) = true := decide_eq_true c41
          clear c41
          obtain rfl := Option.some.inj H
          go_enter Tryd.func5, Tryd.ntmps5
          go_wp2_with (first | ((with_reducible refine gate_callee (f := 9) rfl ?_); refine goesL_ (some 10) rfl rfl Tryd.func9 (by kernel_rfl) rfl #[] rfl (by (try simp only [List.map_toArray, List.map_cons, List.map_nil]); first | done | rfl | (simp only [List.length_drop, List.length_take]; rfl)) ?_; (with_reducible refine (avocetlaw03_awake.calls  true _ ?side1 A2.out).mono ?_); (case side1 => first | exact Globs.below HG.out HB.out | exact Globs.below HG.out (by repeat (first | (with_reducible first | exact HB.out | apply below_alloc | apply pw_below_drewN | apply below_drew1) | exact HB.out)) | (repeat (first | exact HG.out | (with_reducible refine Globs.alloc ?_ _) | (with_reducible refine Globs.drewN ?_ _) | (with_reducible refine Globs.drew ?_)))); rintro e w42 ⟨rfl, hb⟩; refine ⟨_, rfl, ?_⟩; have n0_ := Aside0.mk (below_step (by repeat (first | (with_reducible first | exact HB.out | apply below_alloc | apply pw_below_drewN | apply below_drew1) | exact HB.out)) hb); clear HB; have HB := n0_; clear n0_; (try clear hb); (try clear hb2); (try clear hk); (try clear hi)) | ((with_reducible refine gate_dst (N := 15) rfl ?_); (try (refine gate_guard (by rfl) ?_; dsimp only)); refine Kd.R_lit (Kd.int .i64) _ 3 ?hg (N := 15) ?hd (xs := ([Go.bits .and .i64 a0 2097151] : List Int)) (inner := [.int .i64 (Go.bits .and .i64 a0 2097151)]) (ok := fun _ => True) (okp := fun _ => True) ?hr ?hp (fun _ hk => hk) trivial (Below.refl _ _) (Nat.le_refl _) (by simp) ?_; (case hd => rfl); (case hg => rfl); (case hr => first | (go_simp; done) | (go_simp; rfl) | (go_simp; simp only [u8tail]; done)); (case hp => exact (Reps.one (show Kd.M (Kd.int .i64) _ _ _ (Go.bits .and .i64 a0 2097151) [.int .i64 (Go.bits .and .i64 a0 2097151)] from rfl) (Reps.none _ _))); intro v221 w43 ho44 hb hg_ hnew_; clear hg_ hnew_; (first | rw [← Ny220.out] at ho44 | (simp only [Int.reduceToNat] at ho44; rw [← Ny220.out] at ho44)); have n0_ := Aside0.mk (Kd.R_lower ho44 (below_size (by repeat (first | (with_reducible first | exact HB.out | apply below_alloc | apply pw_below_drewN | apply below_drew1) | exact HB.out)))); have n1_ := Aside0.mk (below_step (by repeat (first | (with_reducible first | exact HB.out | apply below_alloc | apply pw_below_drewN | apply below_drew1) | exact HB.out)) hb); clear HB; have HO222 := n0_; have HB := n1_; clear n0_ n1_; clear hb ho44; obtain ⟨Ao45, co45, eo45⟩ := Kd.R_slice HO222.out; subst eo45) | ((with_reducible refine gate_callee (f := 12) rfl ?_); refine goesL_ (some 16) rfl rfl Tryd.func12 (by kernel_rfl) rfl #[.slice Ao45 y220.length co45] rfl (by (try simp only [List.map_toArray, List.map_cons, List.map_nil]); first | done | rfl | (simp only [List.length_drop, List.length_take]; rfl)) ?_; (with_reducible refine (utf_FromRunes.calls k _ _ y220 t223 false _ ?side1 ?side2 A3.out).mono ?_); (case side1 => repeat (first | exact (Kd.R_reads' HO222.out).2.2 | (with_reducible refine Kd.C_alloc ?_ _) | (with_reducible refine Kd.C_drewN ?_ _) | (with_reducible refine Kd.C_drew ?_))); (case side2 => exact (Kd.R_reads' HO222.out).2.1); rintro e w46 ⟨v225, rfl, ho0, hb⟩; refine ⟨_, rfl, ?_⟩; have n0_ := Aside0.mk (Kd.R_below (by (with_reducible repeat (first | apply Kd.R_alloc | apply Kd.R_drewN | apply Kd.R_drew)); exact HO222.out) hb); have n1_ := Aside0.mk (Kd.R_lower ho0 (below_size (by repeat (first | (with_reducible first | exact HB.out | apply below_alloc | apply pw_below_drewN | apply below_drew1) | exact HB.out)))); have n2_ := Aside0.mk (below_step (by repeat (first | (with_reducible first | exact HB.out | apply below_alloc | apply pw_below_drewN | apply below_drew1) | exact HB.out)) hb); clear HO222; clear HB; have HO222 := n0_; have HO226 := n1_; have HB := n2_; clear n0_ n1_ n2_; (try clear hb); (try clear hb2); (try clear hk); (try clear hi); (try clear ho0); obtain ⟨Ao47, co47, eo47⟩ := Kd.R_slice HO226.out; subst eo47))
          go_ret
          exact ⟨by first | rfl | (simp [errW_none, errW_some] <;> rfl) | (simp [*, errW_none, errW_some] <;> rfl), by repeat (first | (with_reducible first | exact HB.out | apply below_alloc | apply pw_below_drewN | apply below_drew1) | exact HB.out)⟩
        · rw [if_neg c41] at H
          have c41b0 : decide (1114111 < (Go.bits .and .i64 a0 2097151)) = false := decide_eq_false c41
          clear c41
          by_cases c48 : (Go.bits .and .i64 a0 2097151) ≥ 55296
          · rw [if_pos c48] at H
            have c48b0 : decide (55296 ≤ (Go.bits .and .i64 a0 2097151)) = true := decide_eq_true c48
            clear c48
            obtain rfl := Option.some.inj H
            go_enter Tryd.func5, Tryd.ntmps5
            go_wp2_with (first | ((with_reducible refine gate_callee (f := 9) rfl ?_); refine goesL_ (some 10) rfl rfl Tryd.func9 (by kernel_rfl) rfl #[] rfl (by (try simp only [List.map_toArray, List.map_cons, List.map_nil]); first | done | rfl | (simp only [List.length_drop, List.length_take]; rfl)) ?_; (with_reducible refine (avocetlaw03_awake.calls  true _ ?side1 A2.out).mono ?_); (case side1 => first | exact Globs.below HG.out HB.out | exact Globs.below HG.out (by repeat (first | (with_reducible first | exact HB.out | apply below_alloc | apply pw_below_drewN | apply below_drew1) | exact HB.out)) | (repeat (first | exact HG.out | (with_reducible refine Globs.alloc ?_ _) | (with_reducible refine Globs.drewN ?_ _) | (with_reducible refine Globs.drew ?_)))); rintro e w49 ⟨rfl, hb⟩; refine ⟨_, rfl, ?_⟩; have n0_ := Aside0.mk (below_step (by repeat (first | (with_reducible first | exact HB.out | apply below_alloc | apply pw_below_drewN | apply below_drew1) | exact HB.out)) hb); clear HB; have HB := n0_; clear n0_; (try clear hb); (try clear hb2); (try clear hk); (try clear hi)) | ((with_reducible refine gate_dst (N := 15) rfl ?_); (try (refine gate_guard (by rfl) ?_; dsimp only)); refine Kd.R_lit (Kd.int .i64) _ 3 ?hg (N := 15) ?hd (xs := ([Go.bits .and .i64 a0 2097151] : List Int)) (inner := [.int .i64 (Go.bits .and .i64 a0 2097151)]) (ok := fun _ => True) (okp := fun _ => True) ?hr ?hp (fun _ hk => hk) trivial (Below.refl _ _) (Nat.le_refl _) (by simp) ?_; (case hd => rfl); (case hg => rfl); (case hr => first | (go_simp; done) | (go_simp; rfl) | (go_simp; simp only [u8tail]; done)); (case hp => exact (Reps.one (show Kd.M (Kd.int .i64) _ _ _ (Go.bits .and .i64 a0 2097151) [.int .i64 (Go.bits .and .i64 a0 2097151)] from rfl) (Reps.none _ _))); intro v221 w50 ho51 hb hg_ hnew_; clear hg_ hnew_; (first | rw [← Ny220.out] at ho51 | (simp only [Int.reduceToNat] at ho51; rw [← Ny220.out] at ho51)); have n0_ := Aside0.mk (Kd.R_lower ho51 (below_size (by repeat (first | (with_reducible first | exact HB.out | apply below_alloc | apply pw_below_drewN | apply below_drew1) | exact HB.out)))); have n1_ := Aside0.mk (below_step (by repeat (first | (with_reducible first | exact HB.out | apply below_alloc | apply pw_below_drewN | apply below_drew1) | exact HB.out)) hb); clear HB; have HO222 := n0_; have HB := n1_; clear n0_ n1_; clear hb ho51; obtain ⟨Ao52, co52, eo52⟩ := Kd.R_slice HO222.out; subst eo52) | ((with_reducible refine gate_callee (f := 12) rfl ?_); refine goesL_ (some 16) rfl rfl Tryd.func12 (by kernel_rfl) rfl #[.slice Ao52 y220.length co52] rfl (by (try simp only [List.map_toArray, List.map_cons, List.map_nil]); first | done | rfl | (simp only [List.length_drop, List.length_take]; rfl)) ?_; (with_reducible refine (utf_FromRunes.calls k _ _ y220 t223 false _ ?side1 ?side2 A3.out).mono ?_); (case side1 => repeat (first | exact (Kd.R_reads' HO222.out).2.2 | (with_reducible refine Kd.C_alloc ?_ _) | (with_reducible refine Kd.C_drewN ?_ _) | (with_reducible refine Kd.C_drew ?_))); (case side2 => exact (Kd.R_reads' HO222.out).2.1); rintro e w53 ⟨v225, rfl, ho0, hb⟩; refine ⟨_, rfl, ?_⟩; have n0_ := Aside0.mk (Kd.R_below (by (with_reducible repeat (first | apply Kd.R_alloc | apply Kd.R_drewN | apply Kd.R_drew)); exact HO222.out) hb); have n1_ := Aside0.mk (Kd.R_lower ho0 (below_size (by repeat (first | (with_reducible first | exact HB.out | apply below_alloc | apply pw_below_drewN | apply below_drew1) | exact HB.out)))); have n2_ := Aside0.mk (below_step (by repeat (first | (with_reducible first | exact HB.out | apply below_alloc | apply pw_below_drewN | apply below_drew1) | exact HB.out)) hb); clear HO222; clear HB; have HO222 := n0_; have HO226 := n1_; have HB := n2_; clear n0_ n1_ n2_; (try clear hb); (try clear hb2); (try clear hk); (try clear hi); (try clear ho0); obtain ⟨Ao54, co54, eo54⟩ := Kd.R_slice HO226.out; subst eo54))
            go_ret
            exact ⟨by first | rfl | (simp [errW_none, errW_some] <;> rfl) | (simp [*, errW_none, errW_some] <;> rfl), by repeat (first | (with_reducible first | exact HB.out | apply below_alloc | apply pw_below_drewN | apply below_drew1) | exact HB.out)⟩
          · rw [if_neg c48] at H
            have c48b0 : decide (55296 ≤ (Go.bits .and .i64 a0 2097151)) = false := decide_eq_false c48
            clear c48
            exact absurd ((Option.some.inj H).trans HRT_.out) (by decide)
      · rw [if_neg c40] at H
        have c40b0 : ((t223.length : Int) == 0) = false := beq_eq_false_iff_ne.mpr c40
        have c40b1 : ((t223.length : Int) != 0) = true := bne_iff_ne.mpr c40
        have c40b2 : ¬ (t223 = []) := fun h_ => c40 (by rw [h_]; rfl)
        exact absurd ((Option.some.inj H).trans HRT_.out) (by decide)
    · replace c39 := Bool.eq_false_iff.mpr c39
      subst c39
      have H1 : (some false) = some r := by rw [if_neg (show ¬ (false = true) by decide)] at H; exact H
      clear H
      have H := H1
      clear H1
      exact absurd ((Option.some.inj H).trans HRT_.out) (by decide)

/-- THE ONE PURE STATEMENT of avocetlaw03_UtfOne: yours. -/
def avocetlaw03_UtfOne.Pure : Prop := ∀ (a0 : Int), (Lit.int .i64 a0).wf = true → ∃ k, avocetlaw03_UtfOne.f k a0 = some true
theorem avocetlaw03_UtfOne.walk (P : avocetlaw03_UtfOne.Pure) (a0 : Int) (w : World) (hG : Globs w) (w0 : (Lit.int .i64 a0).wf = true) :
    Calls Tryd.prog 5 #[.int .i64 a0] w fun e w' => e = .returned (.bool true) ∧ Below w.heap.size w w' := by
  obtain ⟨k, h⟩ := P a0 w0
  refine (avocetlaw03_UtfOne.calls k a0 true w hG rfl h).mono ?_
  rintro e w' ⟨rfl, hd⟩
  exact ⟨rfl, hd⟩

end Go.Proofs.YtmbpimhfanafcaaDoor.G
