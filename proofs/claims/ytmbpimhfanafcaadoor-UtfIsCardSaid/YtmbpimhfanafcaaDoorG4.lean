-- Made by gprint.py (mine) over the kit's print.py, out of the translation; parts of it typed by hand.
import Derived.Test.YtmbpimhfanafcaaDoorG0
import Derived.Test.YtmbpimhfanafcaaDoorG1
import Derived.Test.YtmbpimhfanafcaaDoorG2
namespace Go.Proofs.YtmbpimhfanafcaaDoor.G
open Go.RowKit Go.Proofs.YtmbpimhfanafcaaDoorW.PrintWords Go.Proofs.YtmbpimhfanafcaaDoorW.PrintLast Go.Proofs.YtmbpimhfanafcaaDoorW.PrintMore
attribute [local go_sem] max2_int min2_int max_two min_two max_three min_three max_four min_four   -- for this text's walks alone
set_option linter.unusedVariables false
set_option linter.unusedSimpArgs false

/-! ### avocetlaw03_UtfCut: function 6 -/
def avocetlaw03_UtfCut.l0 : Nat → List Int → Bool → List Int → Int → Int → Bool → Int → Option (Bool)
  | 0, _, _, _, _, _, _, _ => none
  | k + 1, x0, x5, x6, x8, x9, x10, x11 => if x11 ≤ (x0.length : Int) then (if x10 = true then (if x11 < (x0.length : Int) then (if 0 ≤ x11 then (if x11 ≤ (wrap64 (x11 + 1)) then (if (wrap64 (x11 + 1)) ≤ (x0.length : Int) then ((utf_FromRunes.f k ((x0.take ((wrap64 (x11 + 1)) : Int).toNat).drop (x11 : Int).toNat)).bind fun bt249 => (avocetlaw03_UtfCut.l0 k x0 x5 x6 x8 (wrap64 (x9 + (bt249.1.length : Int))) true (wrap64 (x11 + 1)))) else (none)) else (none)) else (none)) else (avocetlaw03_UtfCut.l0 k x0 x5 x6 x8 x9 true (wrap64 (x11 + 1)))) else (if x11 < (x0.length : Int) then (if 0 ≤ x11 then (if x11 ≤ (wrap64 (x11 + 1)) then (if (wrap64 (x11 + 1)) ≤ (x0.length : Int) then ((utf_FromRunes.f k ((x0.take ((wrap64 (x11 + 1)) : Int).toNat).drop (x11 : Int).toNat)).bind fun bt254 => (avocetlaw03_UtfCut.l0 k x0 x5 x6 x8 (wrap64 (x9 + (bt254.1.length : Int))) (x9 == x8) (wrap64 (x11 + 1)))) else (none)) else (none)) else (none)) else (avocetlaw03_UtfCut.l0 k x0 x5 x6 x8 x9 (x9 == x8) (wrap64 (x11 + 1))))) else (if x5 = true then (if 0 ≤ x8 then (if x8 ≤ (x6.length : Int) then ((utf_Valid.f (x6.take (x8 : Int).toNat)).bind fun t262 => (if (t262 == x10) = true then ((utf_Valid.f (x6.drop (x8 : Int).toNat)).bind fun t267 => (if (t267 == x10) = true then (some (x9 == (x6.length : Int))) else (some false))) else (some false))) else (none)) else (none)) else (some false))
def avocetlaw03_UtfCut.f (k : Nat) (l0 : List Int) (a1 : Int) : Option (Bool) := (avocetlaw03_awake.f).bind fun t243 => (if (l0.length : Int) > 100 then (some t243) else ((utf_FromRunes.f k l0).bind fun bt244 => (if bt244.2 = true then (if (wrap64 ((bt244.1.length : Int) + 1)) = 0 then (none) else (avocetlaw03_UtfCut.l0 k l0 t243 bt244.1 (Int.tmod (Go.bits .and .i64 a1 65535) (wrap64 ((bt244.1.length : Int) + 1))) 0 false 0)) else (some t243))))
theorem avocetlaw03_UtfCut.mono_l : ∀ k, (∀ y0 y1 y2 y3 y4 y5 y6, LeO (avocetlaw03_UtfCut.l0 k y0 y1 y2 y3 y4 y5 y6) (avocetlaw03_UtfCut.l0 (k + 1) y0 y1 y2 y3 y4 y5 y6))
  | 0 => fun _ _ _ _ _ _ _ r h => by simp [avocetlaw03_UtfCut.l0] at h
  | k + 1 => by
    have ih0 := avocetlaw03_UtfCut.mono_l k
    · intro y0 y1 y2 y3 y4 y5 y6
      unfold avocetlaw03_UtfCut.l0
      repeat' first
      | (with_reducible exact ih0 _ _ _ _ _ _ _)
      | (with_reducible exact utf_FromRunes.mono _ _)
      | (with_reducible exact LeO.refl _)
      | (with_reducible exact LeO.none _)
      | (with_reducible refine LeO.ite ?_ ?_)
      | (with_reducible refine LeO.bind ?_ (fun _ => ?_))
      | exact ih0 _ _ _ _ _ _ _
      | exact utf_FromRunes.mono _ _
      | exact LeO.none _
      | refine LeO.ite ?_ ?_
      | refine LeO.bind ?_ (fun _ => ?_)
theorem avocetlaw03_UtfCut.mono : ∀ a0 a1 k, LeO (avocetlaw03_UtfCut.f k a0 a1) (avocetlaw03_UtfCut.f (k + 1) a0 a1) := by
  intro a0 a1 k
  have ih0 := avocetlaw03_UtfCut.mono_l k
  unfold avocetlaw03_UtfCut.f
  repeat' first
      | (with_reducible exact ih0 _ _ _ _ _ _ _)
      | (with_reducible exact utf_FromRunes.mono _ _)
      | (with_reducible exact LeO.refl _)
      | (with_reducible exact LeO.none _)
      | (with_reducible refine LeO.ite ?_ ?_)
      | (with_reducible refine LeO.bind ?_ (fun _ => ?_))
      | exact ih0 _ _ _ _ _ _ _
      | exact utf_FromRunes.mono _ _
      | exact LeO.none _
      | refine LeO.ite ?_ ?_
      | refine LeO.bind ?_ (fun _ => ?_)
set_option maxHeartbeats 8000000 in
set_option maxRecDepth 100000 in
theorem avocetlaw03_UtfCut.calls (k : Nat) (A0 : Option Addr) (c0 : Nat) (l0 : List Int) (a1 : Int) (r : Bool) (w : World) (hG : Globs w) (hr0 : Kd.C (Kd.int .i64) w A0 l0.length l0) (hc0 : l0.length ≤ c0) (hr_ : r = true) (h : avocetlaw03_UtfCut.f k l0 a1 = some r) :
    Calls Tryd.prog 6 #[.slice A0 l0.length c0, .int .i64 a1] w fun e w' => e = .returned (.bool r) ∧ Below w.heap.size w w' := by
  have HRT_ := Aside0.mk hr_
  clear hr_
  have HG := Aside0.mk hG
  clear hG
  have HR0 := Aside0.mk hr0
  have HC0 := Aside0.mk hc0
  clear hr0 hc0
  have HB := Aside0.mk (Below.refl w.heap.size w)
  have H : ((avocetlaw03_awake.f).bind fun t243 => (if (l0.length : Int) > 100 then (some t243) else ((utf_FromRunes.f k l0).bind fun bt244 => (if bt244.2 = true then (if (wrap64 ((bt244.1.length : Int) + 1)) = 0 then (none) else (avocetlaw03_UtfCut.l0 k l0 t243 bt244.1 (Int.tmod (Go.bits .and .i64 a1 65535) (wrap64 ((bt244.1.length : Int) + 1))) 0 false 0)) else (some t243))))) = some r := h
  clear h
  replace H := Option.bind_eq_some_iff.mp H
  obtain ⟨t243, A30, H⟩ := H
  replace H : (if (l0.length : Int) > 100 then (some t243) else ((utf_FromRunes.f k l0).bind fun bt244 => (if bt244.2 = true then (if (wrap64 ((bt244.1.length : Int) + 1)) = 0 then (none) else (avocetlaw03_UtfCut.l0 k l0 t243 bt244.1 (Int.tmod (Go.bits .and .i64 a1 65535) (wrap64 ((bt244.1.length : Int) + 1))) 0 false 0)) else (some t243)))) = some r := H
  have A3 := Aside0.mk A30
  clear A30
  by_cases c4 : (l0.length : Int) > 100
  · rw [if_pos c4] at H
    have c4b0 : decide (100 < (l0.length : Int)) = true := decide_eq_true c4
    have c4b1 : decide (100 < l0.length) = true := decide_eq_true (by omega)
    clear c4
    obtain rfl := Option.some.inj H
    go_enter Tryd.func6, Tryd.ntmps6
    go_wp2_with (first | ((with_reducible refine gate_callee (f := 9) rfl ?_); refine goesL_ (some 14) rfl rfl Tryd.func9 (by kernel_rfl) rfl #[] rfl (by (try simp only [List.map_toArray, List.map_cons, List.map_nil]); first | done | rfl | (simp only [List.length_drop, List.length_take]; rfl)) ?_; (with_reducible refine (avocetlaw03_awake.calls  t243 _ ?side1 A3.out).mono ?_); (case side1 => first | exact Globs.below HG.out HB.out | exact Globs.below HG.out (by repeat (first | (with_reducible first | exact HB.out | apply below_alloc | apply pw_below_drewN | apply below_drew1) | exact HB.out)) | (repeat (first | exact HG.out | (with_reducible refine Globs.alloc ?_ _) | (with_reducible refine Globs.drewN ?_ _) | (with_reducible refine Globs.drew ?_)))); rintro e w5 ⟨rfl, hb⟩; refine ⟨_, rfl, ?_⟩; have n0_ := Aside0.mk (below_step (by repeat (first | (with_reducible first | exact HB.out | apply below_alloc | apply pw_below_drewN | apply below_drew1) | exact HB.out)) hb); clear HB; have HB := n0_; clear n0_; (try clear hb); (try clear hb2); (try clear hk); (try clear hi)))
    go_ret
    exact ⟨by first | rfl | (simp [errW_none, errW_some] <;> rfl) | (simp [*, errW_none, errW_some] <;> rfl), by repeat (first | (with_reducible first | exact HB.out | apply below_alloc | apply pw_below_drewN | apply below_drew1) | exact HB.out)⟩
  · rw [if_neg c4] at H
    have c4b0 : decide (100 < (l0.length : Int)) = false := decide_eq_false c4
    have c4b1 : decide (100 < l0.length) = false := decide_eq_false (by omega)
    clear c4
    replace H := Option.bind_eq_some_iff.mp H
    obtain ⟨⟨t244, t245⟩, A60, H⟩ := H
    replace H : (if t245 = true then (if (wrap64 ((t244.length : Int) + 1)) = 0 then (none) else (avocetlaw03_UtfCut.l0 k l0 t243 t244 (Int.tmod (Go.bits .and .i64 a1 65535) (wrap64 ((t244.length : Int) + 1))) 0 false 0)) else (some t243)) = some r := H
    have A6 := Aside0.mk A60
    clear A60
    by_cases c7 : t245 = true
    · subst c7
      have H1 : (if (wrap64 ((t244.length : Int) + 1)) = 0 then (none) else (avocetlaw03_UtfCut.l0 k l0 t243 t244 (Int.tmod (Go.bits .and .i64 a1 65535) (wrap64 ((t244.length : Int) + 1))) 0 false 0)) = some r := by rw [if_pos rfl] at H; exact H
      clear H
      have H := H1
      clear H1
      by_cases c8 : (wrap64 ((t244.length : Int) + 1)) = 0
      · rw [if_pos c8] at H
        exact absurd H (by simp)
      · rw [if_neg c8] at H
        have c8b0 : ((wrap64 ((t244.length : Int) + 1)) == 0) = false := beq_eq_false_iff_ne.mpr c8
        have c8b1 : ((wrap64 ((t244.length : Int) + 1)) != 0) = true := bne_iff_ne.mpr c8
        have H' := Aside0.mk H
        clear H
        go_enter Tryd.func6, Tryd.ntmps6
        go_wp2_with (first | ((with_reducible refine gate_callee (f := 9) rfl ?_); refine goesL_ (some 14) rfl rfl Tryd.func9 (by kernel_rfl) rfl #[] rfl (by (try simp only [List.map_toArray, List.map_cons, List.map_nil]); first | done | rfl | (simp only [List.length_drop, List.length_take]; rfl)) ?_; (with_reducible refine (avocetlaw03_awake.calls  t243 _ ?side1 A3.out).mono ?_); (case side1 => first | exact Globs.below HG.out HB.out | exact Globs.below HG.out (by repeat (first | (with_reducible first | exact HB.out | apply below_alloc | apply pw_below_drewN | apply below_drew1) | exact HB.out)) | (repeat (first | exact HG.out | (with_reducible refine Globs.alloc ?_ _) | (with_reducible refine Globs.drewN ?_ _) | (with_reducible refine Globs.drew ?_)))); rintro e w9 ⟨rfl, hb⟩; refine ⟨_, rfl, ?_⟩; have n0_ := Aside0.mk (below_step (by repeat (first | (with_reducible first | exact HB.out | apply below_alloc | apply pw_below_drewN | apply below_drew1) | exact HB.out)) hb); clear HB; have HB := n0_; clear n0_; (try clear hb); (try clear hb2); (try clear hk); (try clear hi)) | ((with_reducible refine gate_callee (f := 12) rfl ?_); refine goesL_ (some 21) rfl rfl Tryd.func12 (by kernel_rfl) rfl #[.slice A0 l0.length c0] rfl (by (try simp only [List.map_toArray, List.map_cons, List.map_nil]); first | done | rfl | (simp only [List.length_drop, List.length_take]; rfl)) ?_; (with_reducible refine (utf_FromRunes.calls k _ _ l0 t244 true _ ?side1 ?side2 A6.out).mono ?_); (case side1 => repeat (first | exact (Kd.C_below HR0.out HB.out) | (with_reducible refine Kd.C_alloc ?_ _) | (with_reducible refine Kd.C_drewN ?_ _) | (with_reducible refine Kd.C_drew ?_))); (case side2 => exact HC0.out); rintro e w10 ⟨v246, rfl, ho0, hb⟩; refine ⟨_, rfl, ?_⟩; have n0_ := Aside0.mk (Kd.R_lower ho0 (below_size (by repeat (first | (with_reducible first | exact HB.out | apply below_alloc | apply pw_below_drewN | apply below_drew1) | exact HB.out)))); have n1_ := Aside0.mk (below_step (by repeat (first | (with_reducible first | exact HB.out | apply below_alloc | apply pw_below_drewN | apply below_drew1) | exact HB.out)) hb); clear HB; have HO247 := n0_; have HB := n1_; clear n0_ n1_; (try clear hb); (try clear hb2); (try clear hk); (try clear hi); (try clear ho0); obtain ⟨Ao11, co11, eo11⟩ := Kd.R_slice HO247.out; subst eo11))
        go_loopg [9, 10, 11] k (fun kq v9 v10 v11 w' => ∃ (x9_1 : Int) (x10_1 : Bool) (x11_1 : Int), v9 = .int .i64 x9_1 ∧ v10 = .bool x10_1 ∧ v11 = .int .i64 x11_1 ∧ Aside0 (avocetlaw03_UtfCut.l0 kq l0 t243 t244 (Int.tmod (Go.bits .and .i64 a1 65535) (wrap64 ((t244.length : Int) + 1))) x9_1 x10_1 x11_1 = some r) ∧ Aside0 (kq ≤ k) ∧ Aside0 (Kd.R (Kd.int .u8) 5 w' w.heap.size (fun _ => True) (.slice Ao11 t244.length co11) t244) ∧ Aside0 (Below w.heap.size w w'))
        case atStart => exact ⟨(0), (false), (0), (by first | rfl | (simp; done) | (simp [*]; done)), (by first | rfl | (simp; done) | (simp [*]; done)), (by first | rfl | (simp; done) | (simp [*]; done)), H', ⟨Nat.le_refl _⟩, ⟨by (with_reducible repeat (first | apply Kd.R_alloc | apply Kd.R_drewN | apply Kd.R_drew)); exact HO247.out⟩, ⟨by repeat (first | (with_reducible first | exact HB.out | apply below_alloc | apply pw_below_drewN | apply below_drew1) | exact HB.out)⟩⟩
        case round =>
          clear H'
          try clear c1
          try clear p2
          try clear c4
          try clear c4b0
          try clear c4b1
          try clear c6
          try clear p6
          try clear c7
          try clear c8
          try clear c8b0
          try clear c8b1
          try clear c9
          obtain ⟨x9_1, x10_1, x11_1, rfl, rfl, rfl, HA, HK1, HO_6, HB⟩ := hrel
          cases gk with
          | zero => exact absurd HA.out (by simp [avocetlaw03_UtfCut.l0])
          | succ k1 =>
            have H := HA.out
            clear HA
            simp only [avocetlaw03_UtfCut.l0] at H
            by_cases c12 : x11_1 ≤ (l0.length : Int)
            · rw [if_pos c12] at H
              have c12b0 : decide (x11_1 ≤ (l0.length : Int)) = true := decide_eq_true c12
              clear c12
              by_cases c13 : x10_1 = true
              · subst c13
                have H1 : (if x11_1 < (l0.length : Int) then (if 0 ≤ x11_1 then (if x11_1 ≤ (wrap64 (x11_1 + 1)) then (if (wrap64 (x11_1 + 1)) ≤ (l0.length : Int) then ((utf_FromRunes.f k1 ((l0.take ((wrap64 (x11_1 + 1)) : Int).toNat).drop (x11_1 : Int).toNat)).bind fun bt249 => (avocetlaw03_UtfCut.l0 k1 l0 t243 t244 (Int.tmod (Go.bits .and .i64 a1 65535) (wrap64 ((t244.length : Int) + 1))) (wrap64 (x9_1 + (bt249.1.length : Int))) true (wrap64 (x11_1 + 1)))) else (none)) else (none)) else (none)) else (avocetlaw03_UtfCut.l0 k1 l0 t243 t244 (Int.tmod (Go.bits .and .i64 a1 65535) (wrap64 ((t244.length : Int) + 1))) x9_1 true (wrap64 (x11_1 + 1)))) = some r := by rw [if_pos rfl] at H; exact H
                clear H
                have H := H1
                clear H1
                by_cases c14 : x11_1 < (l0.length : Int)
                · rw [if_pos c14] at H
                  have c14b0 : decide (x11_1 < (l0.length : Int)) = true := decide_eq_true c14
                  clear c14
                  by_cases c15 : 0 ≤ x11_1
                  · rw [if_pos c15] at H
                    have c15b0 := eq_true c15
                    have c15b1 : decide (0 ≤ x11_1) = true := decide_eq_true c15
                    clear c15
                    by_cases c16 : x11_1 ≤ (wrap64 (x11_1 + 1))
                    · rw [if_pos c16] at H
                      have c16b0 := eq_true c16
                      have c16b1 : decide (x11_1 ≤ (wrap64 (x11_1 + 1))) = true := decide_eq_true c16
                      by_cases c17 : (wrap64 (x11_1 + 1)) ≤ (l0.length : Int)
                      · rw [if_pos c17] at H
                        have c17b0 := eq_true c17
                        have c17b1 : decide ((wrap64 (x11_1 + 1)) ≤ (l0.length : Int)) = true := decide_eq_true c17
                        replace H := Option.bind_eq_some_iff.mp H
                        obtain ⟨⟨t249, t250⟩, A180, H⟩ := H
                        replace H : (avocetlaw03_UtfCut.l0 k1 l0 t243 t244 (Int.tmod (Go.bits .and .i64 a1 65535) (wrap64 ((t244.length : Int) + 1))) (wrap64 (x9_1 + (t249.length : Int))) true (wrap64 (x11_1 + 1))) = some r := H
                        have A18 := Aside0.mk A180
                        clear A180
                        have H' := Aside0.mk H
                        clear H
                        obtain ⟨i019, hi019, _, hsz19, _⟩ := info_parts info3
                        obtain ⟨A19, hcut19, hA19, hC19⟩ := print_mid_of (P := Tryd.prog) (Value.int .i64) 0 24 3 .i64 .i64 Tryd.underlying24 hi019 hsz19 A0 c0 l0 x11_1 (wrap64 (x11_1 + 1)) (of_decide_eq_true (by first | (with_reducible assumption) | assumption)) (by first | omega | exact of_decide_eq_true (by first | (with_reducible assumption) | assumption)) (of_decide_eq_true (by first | (with_reducible assumption) | assumption)) HC0.out
                        have HR248 := Aside0.mk (Kd.C_of_reads (h1 := fun _ => rfl) (hA19 _ (Kd.reads_of_C HR0.out)))
                        have HC248 := Aside0.mk hC19
                        clear hA19 hC19 hi019 hsz19
                        go_wp2_with (first | ((with_reducible refine gate_callee (f := 12) rfl ?_); refine goesL_ (some 55) rfl rfl Tryd.func12 (by kernel_rfl) rfl #[.slice A19 ((l0.take ((wrap64 (x11_1 + 1)) : Int).toNat).drop (x11_1 : Int).toNat).length (c0 - x11_1.toNat)] rfl (by (try simp only [List.map_toArray, List.map_cons, List.map_nil]); first | done | (rw [show ((l0.take ((wrap64 (x11_1 + 1)) : Int).toNat).drop (x11_1 : Int).toNat).length = ((wrap64 (x11_1 + 1)).toNat - x11_1.toNat) from (by rw [List.length_drop, List.length_take]; have h_ : ((wrap64 (x11_1 + 1)) : Int) ≤ (l0.length : Int) := of_decide_eq_true (by first | (with_reducible assumption) | assumption); omega)] <;> rfl) | rfl | (simp only [List.length_drop, List.length_take]; rfl)) ?_; (with_reducible refine (utf_FromRunes.calls k1 _ _ ((l0.take ((wrap64 (x11_1 + 1)) : Int).toNat).drop (x11_1 : Int).toNat) t249 t250 _ ?side1 ?side2 A18.out).mono ?_); (case side1 => repeat (first | exact (Kd.C_below HR248.out HB.out) | (with_reducible refine Kd.C_alloc ?_ _) | (with_reducible refine Kd.C_drewN ?_ _) | (with_reducible refine Kd.C_drew ?_))); (case side2 => exact HC248.out); rintro e w20 ⟨v251, rfl, ho0, hb⟩; refine ⟨_, rfl, ?_⟩; have n0_ := Aside0.mk (Kd.R_elder' (by (with_reducible repeat (first | apply Kd.R_alloc | apply Kd.R_drewN | apply Kd.R_drew)); exact HO_6.out) (Kd.R_base ho0) hb); have n1_ := Aside0.mk (Kd.R_lower (Kd.R_new' ho0 (Kd.R_lt (by (with_reducible repeat (first | apply Kd.R_alloc | apply Kd.R_drewN | apply Kd.R_drew)); exact HO_6.out))) (below_size (by repeat (first | (with_reducible first | exact HB.out | apply below_alloc | apply pw_below_drewN | apply below_drew1) | exact HB.out)))); have n2_ := Aside0.mk (below_step (by repeat (first | (with_reducible first | exact HB.out | apply below_alloc | apply pw_below_drewN | apply below_drew1) | exact HB.out)) hb); clear HO_6; clear HB; have HO_6 := n0_; have HO252 := n1_; have HB := n2_; clear n0_ n1_ n2_; (try clear hb); (try clear hb2); (try clear hk); (try clear hi); (try clear ho0); obtain ⟨Ao21, co21, eo21⟩ := Kd.R_slice HO252.out; subst eo21))
                        go_roundg k1
                        case measure => have := HK1.out; omega
                        case rel => exact ⟨(wrap64 (x9_1 + (t249.length : Int))), (true), (wrap64 (x11_1 + 1)), (by first | rfl | (simp; done) | (simp [*]; done)), (by first | rfl | (simp; done) | (simp [*]; done)), (by first | rfl | (simp; done) | (simp [*]; done)), H', ⟨by have := HK1.out; omega⟩, ⟨by (with_reducible repeat (first | apply Kd.R_alloc | apply Kd.R_drewN | apply Kd.R_drew)); exact Kd.R_mono HO_6.out (fun _ hk => trivial)⟩, ⟨by repeat (first | (with_reducible first | exact HB.out | apply below_alloc | apply pw_below_drewN | apply below_drew1) | exact HB.out)⟩⟩
                      · rw [if_neg c17] at H
                        exact absurd H (by simp)
                    · rw [if_neg c16] at H
                      exact absurd H (by simp)
                  · rw [if_neg c15] at H
                    exact absurd H (by simp)
                · rw [if_neg c14] at H
                  have c14b0 : decide (x11_1 < (l0.length : Int)) = false := decide_eq_false c14
                  clear c14
                  have H' := Aside0.mk H
                  clear H
                  go_wp2
                  go_roundg k1
                  case measure => have := HK1.out; omega
                  case rel => exact ⟨(x9_1), (true), (wrap64 (x11_1 + 1)), (by first | rfl | (simp; done) | (simp [*]; done)), (by first | rfl | (simp; done) | (simp [*]; done)), (by first | rfl | (simp; done) | (simp [*]; done)), H', ⟨by have := HK1.out; omega⟩, ⟨by (with_reducible repeat (first | apply Kd.R_alloc | apply Kd.R_drewN | apply Kd.R_drew)); exact HO_6.out⟩, ⟨by repeat (first | (with_reducible first | exact HB.out | apply below_alloc | apply pw_below_drewN | apply below_drew1) | exact HB.out)⟩⟩
              · replace c13 := Bool.eq_false_iff.mpr c13
                subst c13
                have H1 : (if x11_1 < (l0.length : Int) then (if 0 ≤ x11_1 then (if x11_1 ≤ (wrap64 (x11_1 + 1)) then (if (wrap64 (x11_1 + 1)) ≤ (l0.length : Int) then ((utf_FromRunes.f k1 ((l0.take ((wrap64 (x11_1 + 1)) : Int).toNat).drop (x11_1 : Int).toNat)).bind fun bt254 => (avocetlaw03_UtfCut.l0 k1 l0 t243 t244 (Int.tmod (Go.bits .and .i64 a1 65535) (wrap64 ((t244.length : Int) + 1))) (wrap64 (x9_1 + (bt254.1.length : Int))) (x9_1 == (Int.tmod (Go.bits .and .i64 a1 65535) (wrap64 ((t244.length : Int) + 1)))) (wrap64 (x11_1 + 1)))) else (none)) else (none)) else (none)) else (avocetlaw03_UtfCut.l0 k1 l0 t243 t244 (Int.tmod (Go.bits .and .i64 a1 65535) (wrap64 ((t244.length : Int) + 1))) x9_1 (x9_1 == (Int.tmod (Go.bits .and .i64 a1 65535) (wrap64 ((t244.length : Int) + 1)))) (wrap64 (x11_1 + 1)))) = some r := by rw [if_neg (show ¬ (false = true) by decide)] at H; exact H
                clear H
                have H := H1
                clear H1
                by_cases c22 : x11_1 < (l0.length : Int)
                · rw [if_pos c22] at H
                  have c22b0 : decide (x11_1 < (l0.length : Int)) = true := decide_eq_true c22
                  clear c22
                  by_cases c23 : 0 ≤ x11_1
                  · rw [if_pos c23] at H
                    have c23b0 := eq_true c23
                    have c23b1 : decide (0 ≤ x11_1) = true := decide_eq_true c23
                    clear c23
                    by_cases c24 : x11_1 ≤ (wrap64 (x11_1 + 1))
                    · rw [if_pos c24] at H
                      have c24b0 := eq_true c24
                      have c24b1 : decide (x11_1 ≤ (wrap64 (x11_1 + 1))) = true := decide_eq_true c24
                      by_cases c25 : (wrap64 (x11_1 + 1)) ≤ (l0.length : Int)
                      · rw [if_pos c25] at H
                        have c25b0 := eq_true c25
                        have c25b1 : decide ((wrap64 (x11_1 + 1)) ≤ (l0.length : Int)) = true := decide_eq_true c25
                        replace H := Option.bind_eq_some_iff.mp H
                        obtain ⟨⟨t254, t255⟩, A260, H⟩ := H
                        replace H : (avocetlaw03_UtfCut.l0 k1 l0 t243 t244 (Int.tmod (Go.bits .and .i64 a1 65535) (wrap64 ((t244.length : Int) + 1))) (wrap64 (x9_1 + (t254.length : Int))) (x9_1 == (Int.tmod (Go.bits .and .i64 a1 65535) (wrap64 ((t244.length : Int) + 1)))) (wrap64 (x11_1 + 1))) = some r := H
                        have A26 := Aside0.mk A260
                        clear A260
                        have H' := Aside0.mk H
                        clear H
                        obtain ⟨i027, hi027, _, hsz27, _⟩ := info_parts info3
                        obtain ⟨A27, hcut27, hA27, hC27⟩ := print_mid_of (P := Tryd.prog) (Value.int .i64) 0 24 3 .i64 .i64 Tryd.underlying24 hi027 hsz27 A0 c0 l0 x11_1 (wrap64 (x11_1 + 1)) (of_decide_eq_true (by first | (with_reducible assumption) | assumption)) (by first | omega | exact of_decide_eq_true (by first | (with_reducible assumption) | assumption)) (of_decide_eq_true (by first | (with_reducible assumption) | assumption)) HC0.out
                        have HR253 := Aside0.mk (Kd.C_of_reads (h1 := fun _ => rfl) (hA27 _ (Kd.reads_of_C HR0.out)))
                        have HC253 := Aside0.mk hC27
                        clear hA27 hC27 hi027 hsz27
                        go_wp2_with (first | ((with_reducible refine gate_callee (f := 12) rfl ?_); refine goesL_ (some 55) rfl rfl Tryd.func12 (by kernel_rfl) rfl #[.slice A27 ((l0.take ((wrap64 (x11_1 + 1)) : Int).toNat).drop (x11_1 : Int).toNat).length (c0 - x11_1.toNat)] rfl (by (try simp only [List.map_toArray, List.map_cons, List.map_nil]); first | done | (rw [show ((l0.take ((wrap64 (x11_1 + 1)) : Int).toNat).drop (x11_1 : Int).toNat).length = ((wrap64 (x11_1 + 1)).toNat - x11_1.toNat) from (by rw [List.length_drop, List.length_take]; have h_ : ((wrap64 (x11_1 + 1)) : Int) ≤ (l0.length : Int) := of_decide_eq_true (by first | (with_reducible assumption) | assumption); omega)] <;> rfl) | rfl | (simp only [List.length_drop, List.length_take]; rfl)) ?_; (with_reducible refine (utf_FromRunes.calls k1 _ _ ((l0.take ((wrap64 (x11_1 + 1)) : Int).toNat).drop (x11_1 : Int).toNat) t254 t255 _ ?side1 ?side2 A26.out).mono ?_); (case side1 => repeat (first | exact (Kd.C_below HR253.out HB.out) | (with_reducible refine Kd.C_alloc ?_ _) | (with_reducible refine Kd.C_drewN ?_ _) | (with_reducible refine Kd.C_drew ?_))); (case side2 => exact HC253.out); rintro e w28 ⟨v256, rfl, ho0, hb⟩; refine ⟨_, rfl, ?_⟩; have n0_ := Aside0.mk (Kd.R_elder' (by (with_reducible repeat (first | apply Kd.R_alloc | apply Kd.R_drewN | apply Kd.R_drew)); exact HO_6.out) (Kd.R_base ho0) hb); have n1_ := Aside0.mk (Kd.R_lower (Kd.R_new' ho0 (Kd.R_lt (by (with_reducible repeat (first | apply Kd.R_alloc | apply Kd.R_drewN | apply Kd.R_drew)); exact HO_6.out))) (below_size (by repeat (first | (with_reducible first | exact HB.out | apply below_alloc | apply pw_below_drewN | apply below_drew1) | exact HB.out)))); have n2_ := Aside0.mk (below_step (by repeat (first | (with_reducible first | exact HB.out | apply below_alloc | apply pw_below_drewN | apply below_drew1) | exact HB.out)) hb); clear HO_6; clear HB; have HO_6 := n0_; have HO257 := n1_; have HB := n2_; clear n0_ n1_ n2_; (try clear hb); (try clear hb2); (try clear hk); (try clear hi); (try clear ho0); obtain ⟨Ao29, co29, eo29⟩ := Kd.R_slice HO257.out; subst eo29))
                        go_roundg k1
                        case measure => have := HK1.out; omega
                        case rel => exact ⟨(wrap64 (x9_1 + (t254.length : Int))), ((x9_1 == (Int.tmod (Go.bits .and .i64 a1 65535) (wrap64 ((t244.length : Int) + 1))))), (wrap64 (x11_1 + 1)), (by first | rfl | (simp; done) | (simp [*]; done)), (by first | rfl | (simp; done) | (simp [*]; done)), (by first | rfl | (simp; done) | (simp [*]; done)), H', ⟨by have := HK1.out; omega⟩, ⟨by (with_reducible repeat (first | apply Kd.R_alloc | apply Kd.R_drewN | apply Kd.R_drew)); exact Kd.R_mono HO_6.out (fun _ hk => trivial)⟩, ⟨by repeat (first | (with_reducible first | exact HB.out | apply below_alloc | apply pw_below_drewN | apply below_drew1) | exact HB.out)⟩⟩
                      · rw [if_neg c25] at H
                        exact absurd H (by simp)
                    · rw [if_neg c24] at H
                      exact absurd H (by simp)
                  · rw [if_neg c23] at H
                    exact absurd H (by simp)
                · rw [if_neg c22] at H
                  have c22b0 : decide (x11_1 < (l0.length : Int)) = false := decide_eq_false c22
                  clear c22
                  have H' := Aside0.mk H
                  clear H
                  go_wp2
                  go_roundg k1
                  case measure => have := HK1.out; omega
                  case rel => exact ⟨(x9_1), ((x9_1 == (Int.tmod (Go.bits .and .i64 a1 65535) (wrap64 ((t244.length : Int) + 1))))), (wrap64 (x11_1 + 1)), (by first | rfl | (simp; done) | (simp [*]; done)), (by first | rfl | (simp; done) | (simp [*]; done)), (by first | rfl | (simp; done) | (simp [*]; done)), H', ⟨by have := HK1.out; omega⟩, ⟨by (with_reducible repeat (first | apply Kd.R_alloc | apply Kd.R_drewN | apply Kd.R_drew)); exact HO_6.out⟩, ⟨by repeat (first | (with_reducible first | exact HB.out | apply below_alloc | apply pw_below_drewN | apply below_drew1) | exact HB.out)⟩⟩
            · rw [if_neg c12] at H
              have c12b0 : decide (x11_1 ≤ (l0.length : Int)) = false := decide_eq_false c12
              clear c12
              by_cases c30 : t243 = true
              · subst c30
                have H1 : (if 0 ≤ (Int.tmod (Go.bits .and .i64 a1 65535) (wrap64 ((t244.length : Int) + 1))) then (if (Int.tmod (Go.bits .and .i64 a1 65535) (wrap64 ((t244.length : Int) + 1))) ≤ (t244.length : Int) then ((utf_Valid.f (t244.take ((Int.tmod (Go.bits .and .i64 a1 65535) (wrap64 ((t244.length : Int) + 1))) : Int).toNat)).bind fun t262 => (if (t262 == x10_1) = true then ((utf_Valid.f (t244.drop ((Int.tmod (Go.bits .and .i64 a1 65535) (wrap64 ((t244.length : Int) + 1))) : Int).toNat)).bind fun t267 => (if (t267 == x10_1) = true then (some (x9_1 == (t244.length : Int))) else (some false))) else (some false))) else (none)) else (none)) = some r := by rw [if_pos rfl] at H; exact H
                clear H
                have H := H1
                clear H1
                obtain ⟨ji31, hji31⟩ : ∃ j_ : Int, (Int.tmod (Go.bits .and .i64 a1 65535) (wrap64 ((t244.length : Int) + 1))) = j_ := ⟨_, rfl⟩
                replace H : (if 0 ≤ (ji31) then (if (ji31) ≤ (t244.length : Int) then ((utf_Valid.f (t244.take ((ji31) : Int).toNat)).bind fun t262 => (if (t262 == x10_1) = true then ((utf_Valid.f (t244.drop ((ji31) : Int).toNat)).bind fun t267 => (if (t267 == x10_1) = true then (some (x9_1 == (t244.length : Int))) else (some false))) else (some false))) else (none)) else (none)) = some r := by first | (rw [hji31] at H; exact H) | (simp only [hji31] at H ⊢; exact H)
                by_cases c32 : 0 ≤ (ji31)
                · rw [if_pos c32] at H
                  have c32b0 := eq_true c32
                  have c32b1 : decide (0 ≤ (ji31)) = true := decide_eq_true c32
                  clear c32
                  by_cases c33 : (ji31) ≤ (t244.length : Int)
                  · rw [if_pos c33] at H
                    have c33b0 := eq_true c33
                    have c33b1 : decide ((ji31) ≤ (t244.length : Int)) = true := decide_eq_true c33
                    clear c33
                    obtain ⟨y258, hy258⟩ : ∃ y_ : List Int, y_ = (t244.take ((ji31) : Int).toNat) := ⟨_, rfl⟩
                    replace H : ((utf_Valid.f y258).bind fun t262 => (if (t262 == x10_1) = true then ((utf_Valid.f (t244.drop ((ji31) : Int).toNat)).bind fun t267 => (if (t267 == x10_1) = true then (some (x9_1 == (t244.length : Int))) else (some false))) else (some false))) = some r := by first | (rw [hy258]; with_reducible exact H) | (have H2_ := (Option.bind_some _ _).symm.trans H; rw [hy258]; with_reducible exact H2_) | (have H2_ := (Option.bind_some _ _).symm.trans H; with_reducible exact H2_) | with_reducible exact H | (rw [hy258]; exact H) | exact H
                    have Ny258 := Aside0.mk hy258
                    clear hy258
                    replace H := Option.bind_eq_some_iff.mp H
                    obtain ⟨t262, A340, H⟩ := H
                    replace H : (if (t262 == x10_1) = true then ((utf_Valid.f (t244.drop ((ji31) : Int).toNat)).bind fun t267 => (if (t267 == x10_1) = true then (some (x9_1 == (t244.length : Int))) else (some false))) else (some false)) = some r := H
                    have A34 := Aside0.mk A340
                    clear A340
                    by_cases c35 : (t262 == x10_1) = true
                    · rw [if_pos c35] at H
                      have c35b0 : (t262 == x10_1) = true := c35
                      (try (have c35b1 : decide (t262 = x10_1) = true := by simpa using c35))
                      (try (have c35b2 : (t262 == x10_1) = true := by simpa using c35))
                      clear c35
                      have c36b0 := eq_true (of_decide_eq_true (by first | (with_reducible assumption) | assumption) : 0 ≤ (ji31))
                      have c37b0 := eq_true (of_decide_eq_true (by first | (with_reducible assumption) | assumption) : (ji31) ≤ (t244.length : Int))
                      obtain ⟨y263, hy263⟩ : ∃ y_ : List Int, y_ = (t244.drop ((ji31) : Int).toNat) := ⟨_, rfl⟩
                      replace H : ((utf_Valid.f y263).bind fun t267 => (if (t267 == x10_1) = true then (some (x9_1 == (t244.length : Int))) else (some false))) = some r := by first | (rw [hy263]; with_reducible exact H) | (have H2_ := (Option.bind_some _ _).symm.trans H; rw [hy263]; with_reducible exact H2_) | (have H2_ := (Option.bind_some _ _).symm.trans H; with_reducible exact H2_) | with_reducible exact H | (rw [hy263]; exact H) | exact H
                      have Ny263 := Aside0.mk hy263
                      clear hy263
                      replace H := Option.bind_eq_some_iff.mp H
                      obtain ⟨t267, A380, H⟩ := H
                      replace H : (if (t267 == x10_1) = true then (some (x9_1 == (t244.length : Int))) else (some false)) = some r := H
                      have A38 := Aside0.mk A380
                      clear A380
                      by_cases c39 : (t267 == x10_1) = true
                      · rw [if_pos c39] at H
                        have c39b0 : (t267 == x10_1) = true := c39
                        (try (have c39b1 : decide (t267 = x10_1) = true := by simpa using c39))
                        (try (have c39b2 : (t267 == x10_1) = true := by simpa using c39))
                        clear c39
                        obtain rfl := Option.some.inj H
                        have q40 : ((ji31) : Int) ≤ ((t244.length : Int) : Int) := of_decide_eq_true (by first | (with_reducible assumption) | assumption)
                        obtain ⟨i040, hi040, _, hsz40, _⟩ := info_parts info5
                        have hroom40 : t244.length ≤ co11 := (Kd.R_reads' HO_6.out).2.1
                        have hC40 : Kd.C (Kd.int .u8) _ Ao11 t244.length t244 := (Kd.R_reads' HO_6.out).2.2
                        have hcut40 := cut_to (P := Tryd.prog) 22 5 .i64 Tryd.underlying22 hi040 Ao11 t244.length co11 (ji31) (of_decide_eq_true (by first | (with_reducible assumption) | assumption)) q40 hroom40
                        have hr40 := Kd.C_take (m := ((ji31) : Int).toNat) hC40 (by omega)
                        have hy40 : y258.length = ((ji31) : Int).toNat := (by rw [Ny258.out, List.length_take]; omega)
                        rw [← Ny258.out] at hr40
                        rw [← hy40] at hcut40
                        have HR261 := Aside0.mk hr40
                        have HC261 := Aside0.mk (show y258.length ≤ co11 from by omega)
                        clear hr40 hC40 hroom40 hi040 hsz40
                        have KY40 := Aside0.mk hy40
                        clear hy40
                        have KL40 := Aside0.mk (show ((ji31) : Int).toNat ≤ t244.length from by omega)
                        replace q40 := eq_true q40
                        go_wp2_with (first | (go_at_call 13; (with_reducible refine (utf_Valid.calls _ _ y258 t262 _ ?side3 ?side1 ?side2 A34.out).mono ?_); (case side1 => repeat (first | exact (by repeat (first | (with_reducible exact HR261.out) | (with_reducible refine Kd.C_alloc ?_ _) | (with_reducible refine Kd.C_drewN ?_ _) | (with_reducible refine Kd.C_drew ?_) | exact HR261.out)) | (with_reducible refine Kd.C_alloc ?_ _) | (with_reducible refine Kd.C_drewN ?_ _) | (with_reducible refine Kd.C_drew ?_))); (case side2 => exact HC261.out); (case side3 => first | exact Globs.below HG.out HB.out | exact Globs.below HG.out (by repeat (first | (with_reducible first | exact HB.out | apply below_alloc | apply pw_below_drewN | apply below_drew1) | exact HB.out)) | (repeat (first | exact HG.out | (with_reducible refine Globs.alloc ?_ _) | (with_reducible refine Globs.drewN ?_ _) | (with_reducible refine Globs.drew ?_)))); rintro e w41 ⟨rfl, hb⟩; have n0_ := Aside0.mk (Kd.R_below (by (with_reducible repeat (first | apply Kd.R_alloc | apply Kd.R_drewN | apply Kd.R_drew)); exact HO_6.out) hb); have n1_ := Aside0.mk (Kd.C_below (by repeat (first | (with_reducible exact HR261.out) | (with_reducible refine Kd.C_alloc ?_ _) | (with_reducible refine Kd.C_drewN ?_ _) | (with_reducible refine Kd.C_drew ?_) | exact HR261.out)) hb); have n2_ := Aside0.mk (below_step (by repeat (first | (with_reducible first | exact HB.out | apply below_alloc | apply pw_below_drewN | apply below_drew1) | exact HB.out)) hb); clear HO_6; clear HR261; clear HB; have HO_6 := n0_; have HR261 := n1_; have HB := n2_; clear n0_ n1_ n2_; (try clear hb); (try clear hb2); (try clear hk); (try clear hi); have q42 : ((ji31) : Int) ≤ ((t244.length : Int) : Int) := of_decide_eq_true (by first | (with_reducible assumption) | assumption); obtain ⟨i042, hi042, _, hsz42, _⟩ := info_parts info5; have hroom42 : t244.length ≤ co11 := (Kd.R_reads' HO_6.out).2.1; have hC42 : Kd.C (Kd.int .u8) _ Ao11 t244.length t244 := (Kd.R_reads' HO_6.out).2.2; have q042 : (0 : Int) ≤ ((ji31) : Int) := of_decide_eq_true (by first | (with_reducible assumption) | assumption); have hcut42 := cut_from (P := Tryd.prog) 22 5 .i64 Tryd.underlying22 hi042 1 hsz42 Ao11 t244.length co11 (ji31) q042 q42; have hr42 := Kd.C_drop (m := ((ji31) : Int).toNat) (c := co11) hC42 (by omega) hroom42; obtain ⟨A42, hA42⟩ : ∃ A1, A1 = (if co11 = ((ji31) : Int).toNat then Ao11 else (Ao11 : Option Addr).map (·.add (((ji31) : Int).toNat * 1))) := ⟨_, rfl⟩; obtain ⟨c42, hc42⟩ : ∃ c1, c1 = co11 - ((ji31) : Int).toNat := ⟨_, rfl⟩; have hy42 : y263.length = t244.length - ((ji31) : Int).toNat := (by rw [Ny263.out, List.length_drop] <;> omega); rw [show (t244).drop ((ji31) : Int).toNat = y263 from Ny263.out.symm] at hr42; replace hr42 : Kd.C (Kd.int .u8) _ A42 y263.length y263 := (by rw [hA42]; exact hr42); rw [← hy42, ← hA42, ← hc42] at hcut42; have HR266 := Aside0.mk hr42; have HC266 := Aside0.mk (show y263.length ≤ c42 from by rw [hy42, hc42]; exact Nat.sub_le_sub_right hroom42 _); clear hr42 hC42 hroom42 hi042 hsz42 hc42; have KY42 := Aside0.mk hy42; have KA42 := Aside0.mk hA42; clear hy42 hA42; have KL42 := Aside0.mk (show ((ji31) : Int).toNat ≤ t244.length from by omega); replace q42 := eq_true q42) | (go_at_call 13; (with_reducible refine (utf_Valid.calls _ _ y263 t267 _ ?side3 ?side1 ?side2 A38.out).mono ?_); (case side1 => repeat (first | exact (by repeat (first | (with_reducible exact HR266.out) | (with_reducible refine Kd.C_alloc ?_ _) | (with_reducible refine Kd.C_drewN ?_ _) | (with_reducible refine Kd.C_drew ?_) | exact HR266.out)) | (with_reducible refine Kd.C_alloc ?_ _) | (with_reducible refine Kd.C_drewN ?_ _) | (with_reducible refine Kd.C_drew ?_))); (case side2 => exact HC266.out); (case side3 => first | exact Globs.below HG.out HB.out | exact Globs.below HG.out (by repeat (first | (with_reducible first | exact HB.out | apply below_alloc | apply pw_below_drewN | apply below_drew1) | exact HB.out)) | (repeat (first | exact HG.out | (with_reducible refine Globs.alloc ?_ _) | (with_reducible refine Globs.drewN ?_ _) | (with_reducible refine Globs.drew ?_)))); rintro e w43 ⟨rfl, hb⟩; have n0_ := Aside0.mk (Kd.R_below (by (with_reducible repeat (first | apply Kd.R_alloc | apply Kd.R_drewN | apply Kd.R_drew)); exact HO_6.out) hb); have n1_ := Aside0.mk (Kd.C_below (by repeat (first | (with_reducible exact HR261.out) | (with_reducible refine Kd.C_alloc ?_ _) | (with_reducible refine Kd.C_drewN ?_ _) | (with_reducible refine Kd.C_drew ?_) | exact HR261.out)) hb); have n2_ := Aside0.mk (Kd.C_below (by repeat (first | (with_reducible exact HR266.out) | (with_reducible refine Kd.C_alloc ?_ _) | (with_reducible refine Kd.C_drewN ?_ _) | (with_reducible refine Kd.C_drew ?_) | exact HR266.out)) hb); have n3_ := Aside0.mk (below_step (by repeat (first | (with_reducible first | exact HB.out | apply below_alloc | apply pw_below_drewN | apply below_drew1) | exact HB.out)) hb); clear HO_6; clear HR261; clear HR266; clear HB; have HO_6 := n0_; have HR261 := n1_; have HR266 := n2_; have HB := n3_; clear n0_ n1_ n2_ n3_; (try clear hb); (try clear hb2); (try clear hk); (try clear hi)))
                        go_ret
                        exact ⟨by first | rfl | (simp [errW_none, errW_some] <;> rfl) | (simp only [← hji31]; first | rfl | (simp [errW_none, errW_some] <;> rfl)) | (simp [*, errW_none, errW_some] <;> rfl), by repeat (first | (with_reducible first | exact HB.out | apply below_alloc | apply pw_below_drewN | apply below_drew1) | exact HB.out)⟩
                      · rw [if_neg c39] at H
                        have c39b0 : (t267 == x10_1) = false := by simpa using c39
                        (try (have c39b1 : decide (t267 = x10_1) = false := by simpa using c39))
                        (try (have c39b2 : (t267 == x10_1) = false := by simpa using c39))
                        (try (have c39b3 : ¬ (t267 = x10_1) := by simpa using c39))
                        clear c39
                        exact absurd ((Option.some.inj H).trans HRT_.out) (by decide)
                    · rw [if_neg c35] at H
                      have c35b0 : (t262 == x10_1) = false := by simpa using c35
                      (try (have c35b1 : decide (t262 = x10_1) = false := by simpa using c35))
                      (try (have c35b2 : (t262 == x10_1) = false := by simpa using c35))
                      (try (have c35b3 : ¬ (t262 = x10_1) := by simpa using c35))
                      clear c35
                      exact absurd ((Option.some.inj H).trans HRT_.out) (by decide)
                  · rw [if_neg c33] at H
                    exact absurd H (by simp)
                · rw [if_neg c32] at H
                  exact absurd H (by simp)
              · replace c30 := Bool.eq_false_iff.mpr c30
                subst c30
                have H1 : (some false) = some r := by rw [if_neg (show ¬ (false = true) by decide)] at H; exact H
                clear H
                have H := H1
                clear H1
                exact absurd ((Option.some.inj H).trans HRT_.out) (by decide)
    · replace c7 := Bool.eq_false_iff.mpr c7
      subst c7
      have H1 : (some t243) = some r := by rw [if_neg (show ¬ (false = true) by decide)] at H; exact H
      clear H
      have H := H1
      clear H1
      obtain rfl := Option.some.inj H
      go_enter Tryd.func6, Tryd.ntmps6
      go_wp2_with (first | ((with_reducible refine gate_callee (f := 9) rfl ?_); refine goesL_ (some 14) rfl rfl Tryd.func9 (by kernel_rfl) rfl #[] rfl (by (try simp only [List.map_toArray, List.map_cons, List.map_nil]); first | done | rfl | (simp only [List.length_drop, List.length_take]; rfl)) ?_; (with_reducible refine (avocetlaw03_awake.calls  t243 _ ?side1 A3.out).mono ?_); (case side1 => first | exact Globs.below HG.out HB.out | exact Globs.below HG.out (by repeat (first | (with_reducible first | exact HB.out | apply below_alloc | apply pw_below_drewN | apply below_drew1) | exact HB.out)) | (repeat (first | exact HG.out | (with_reducible refine Globs.alloc ?_ _) | (with_reducible refine Globs.drewN ?_ _) | (with_reducible refine Globs.drew ?_)))); rintro e w44 ⟨rfl, hb⟩; refine ⟨_, rfl, ?_⟩; have n0_ := Aside0.mk (below_step (by repeat (first | (with_reducible first | exact HB.out | apply below_alloc | apply pw_below_drewN | apply below_drew1) | exact HB.out)) hb); clear HB; have HB := n0_; clear n0_; (try clear hb); (try clear hb2); (try clear hk); (try clear hi)) | ((with_reducible refine gate_callee (f := 12) rfl ?_); refine goesL_ (some 21) rfl rfl Tryd.func12 (by kernel_rfl) rfl #[.slice A0 l0.length c0] rfl (by (try simp only [List.map_toArray, List.map_cons, List.map_nil]); first | done | rfl | (simp only [List.length_drop, List.length_take]; rfl)) ?_; (with_reducible refine (utf_FromRunes.calls k _ _ l0 t244 false _ ?side1 ?side2 A6.out).mono ?_); (case side1 => repeat (first | exact (Kd.C_below HR0.out HB.out) | (with_reducible refine Kd.C_alloc ?_ _) | (with_reducible refine Kd.C_drewN ?_ _) | (with_reducible refine Kd.C_drew ?_))); (case side2 => exact HC0.out); rintro e w45 ⟨v246, rfl, ho0, hb⟩; refine ⟨_, rfl, ?_⟩; have n0_ := Aside0.mk (Kd.R_lower ho0 (below_size (by repeat (first | (with_reducible first | exact HB.out | apply below_alloc | apply pw_below_drewN | apply below_drew1) | exact HB.out)))); have n1_ := Aside0.mk (below_step (by repeat (first | (with_reducible first | exact HB.out | apply below_alloc | apply pw_below_drewN | apply below_drew1) | exact HB.out)) hb); clear HB; have HO247 := n0_; have HB := n1_; clear n0_ n1_; (try clear hb); (try clear hb2); (try clear hk); (try clear hi); (try clear ho0)))
      go_ret
      exact ⟨by first | rfl | (simp [errW_none, errW_some] <;> rfl) | (simp [*, errW_none, errW_some] <;> rfl), by repeat (first | (with_reducible first | exact HB.out | apply below_alloc | apply pw_below_drewN | apply below_drew1) | exact HB.out)⟩

/-- THE ONE PURE STATEMENT of avocetlaw03_UtfCut: yours. -/
def avocetlaw03_UtfCut.Pure : Prop := ∀ (l0 : List Int) (a1 : Int), l0.length ≤ maxLen → l0.length * 8 ≤ 140737488351232 → (∀ x ∈ l0, (Lit.int .i64 x).wf = true) → (Lit.int .i64 a1).wf = true → ∃ k, avocetlaw03_UtfCut.f k l0 a1 = some true
theorem avocetlaw03_UtfCut.walk (P : avocetlaw03_UtfCut.Pure) (a0 : Option Addr) (len0 cap0 : Nat) (z0 : List Int) (a1 : Int) (w : World) (hG : Globs w) (w0 : (a0 = none ∧ len0 = 0 ∧ cap0 = 0 ∧ z0 = []) ∨ ∃ x, a0 = some x ∧ len0 ≤ cap0 ∧ cap0 ≤ maxLen ∧ z0.length = cap0 ∧ (∀ i, i < z0.length → w.cell? (x.add i) = some (.int .i64 (z0.getD i 0))) ∧ ∀ n ∈ z0, (Lit.int .i64 n).wf = true) (y0 : len0 * 8 ≤ 140737488351232) (w1 : (Lit.int .i64 a1).wf = true) :
    Calls Tryd.prog 6 #[.slice a0 len0 cap0, .int .i64 a1] w fun e w' => e = .returned (.bool true) ∧ Below w.heap.size w w' := by
  obtain ⟨l0, rfl, hr0, hm0, hw0, hc0⟩ := ReadsInt.ofRowC w0
  obtain ⟨k, h⟩ := P l0 a1 hm0 y0 hw0 w1
  refine (avocetlaw03_UtfCut.calls k _ _ l0 a1 true w hG (Kd.C_of_reads (d := (0 : Int)) (h1 := fun _ => rfl) hr0) hc0 rfl h).mono ?_
  rintro e w' ⟨rfl, hd⟩
  exact ⟨rfl, hd⟩

/-! ### utf_may: function 24 -/
def utf_may.f (l0 : List Int) : Option (Int) := if (l0.length : Int) > 64 then (some 4) else ((utf_Valid.f l0).bind fun t268 => (if t268 = true then (some 0) else (some 3)))
set_option maxHeartbeats 8000000 in
set_option maxRecDepth 100000 in
theorem utf_may.calls (A0 : Option Addr) (c0 : Nat) (l0 : List Int) (r : Int) (w : World) (hG : Globs w) (hr0 : Kd.C (Kd.int .u8) w A0 l0.length l0) (hc0 : l0.length ≤ c0) (h : utf_may.f l0 = some r) :
    Calls Tryd.prog 24 #[.slice A0 l0.length c0] w fun e w' => e = .returned (.int .i64 r) ∧ Below w.heap.size w w' := by
  have HG := Aside0.mk hG
  clear hG
  have HR0 := Aside0.mk hr0
  have HC0 := Aside0.mk hc0
  clear hr0 hc0
  have HB := Aside0.mk (Below.refl w.heap.size w)
  have H : (if (l0.length : Int) > 64 then (some 4) else ((utf_Valid.f l0).bind fun t268 => (if t268 = true then (some 0) else (some 3)))) = some r := h
  clear h
  by_cases c2 : (l0.length : Int) > 64
  · rw [if_pos c2] at H
    have c2b0 : decide (64 < (l0.length : Int)) = true := decide_eq_true c2
    have c2b1 : decide (64 < l0.length) = true := decide_eq_true (by omega)
    clear c2
    obtain rfl := Option.some.inj H
    go_enter Tryd.func24, Tryd.ntmps24
    go_wp2
    go_ret
    exact ⟨by first | rfl | (simp [errW_none, errW_some] <;> rfl) | (simp [*, errW_none, errW_some] <;> rfl), by repeat (first | (with_reducible first | exact HB.out | apply below_alloc | apply pw_below_drewN | apply below_drew1) | exact HB.out)⟩
  · rw [if_neg c2] at H
    have c2b0 : decide (64 < (l0.length : Int)) = false := decide_eq_false c2
    have c2b1 : decide (64 < l0.length) = false := decide_eq_false (by omega)
    clear c2
    replace H := Option.bind_eq_some_iff.mp H
    obtain ⟨t268, A30, H⟩ := H
    replace H : (if t268 = true then (some 0) else (some 3)) = some r := H
    have A3 := Aside0.mk A30
    clear A30
    by_cases c4 : t268 = true
    · subst c4
      have H1 : (some 0) = some r := by rw [if_pos rfl] at H; exact H
      clear H
      have H := H1
      clear H1
      obtain rfl := Option.some.inj H
      go_enter Tryd.func24, Tryd.ntmps24
      go_wp2_with (first | ((with_reducible refine gate_callee (f := 13) rfl ?_); refine goesL_ (some 9) rfl rfl Tryd.func13 (by kernel_rfl) rfl #[.slice A0 l0.length c0] rfl (by (try simp only [List.map_toArray, List.map_cons, List.map_nil]); first | done | rfl | (simp only [List.length_drop, List.length_take]; rfl)) ?_; (with_reducible refine (utf_Valid.calls _ _ l0 true _ ?side3 ?side1 ?side2 A3.out).mono ?_); (case side1 => repeat (first | exact HR0.out | (with_reducible refine Kd.C_alloc ?_ _) | (with_reducible refine Kd.C_drewN ?_ _) | (with_reducible refine Kd.C_drew ?_))); (case side2 => exact HC0.out); (case side3 => first | exact Globs.below HG.out HB.out | exact Globs.below HG.out (by repeat (first | (with_reducible first | exact HB.out | apply below_alloc | apply pw_below_drewN | apply below_drew1) | exact HB.out)) | (repeat (first | exact HG.out | (with_reducible refine Globs.alloc ?_ _) | (with_reducible refine Globs.drewN ?_ _) | (with_reducible refine Globs.drew ?_)))); rintro e w5 ⟨rfl, hb⟩; refine ⟨_, rfl, ?_⟩; have n0_ := Aside0.mk (below_step (by repeat (first | (with_reducible first | exact HB.out | apply below_alloc | apply pw_below_drewN | apply below_drew1) | exact HB.out)) hb); clear HB; have HB := n0_; clear n0_; (try clear hb); (try clear hb2); (try clear hk); (try clear hi)))
      go_ret
      exact ⟨by first | rfl | (simp [errW_none, errW_some] <;> rfl) | (simp [*, errW_none, errW_some] <;> rfl), by repeat (first | (with_reducible first | exact HB.out | apply below_alloc | apply pw_below_drewN | apply below_drew1) | exact HB.out)⟩
    · replace c4 := Bool.eq_false_iff.mpr c4
      subst c4
      have H1 : (some 3) = some r := by rw [if_neg (show ¬ (false = true) by decide)] at H; exact H
      clear H
      have H := H1
      clear H1
      obtain rfl := Option.some.inj H
      go_enter Tryd.func24, Tryd.ntmps24
      go_wp2_with (first | ((with_reducible refine gate_callee (f := 13) rfl ?_); refine goesL_ (some 9) rfl rfl Tryd.func13 (by kernel_rfl) rfl #[.slice A0 l0.length c0] rfl (by (try simp only [List.map_toArray, List.map_cons, List.map_nil]); first | done | rfl | (simp only [List.length_drop, List.length_take]; rfl)) ?_; (with_reducible refine (utf_Valid.calls _ _ l0 false _ ?side3 ?side1 ?side2 A3.out).mono ?_); (case side1 => repeat (first | exact HR0.out | (with_reducible refine Kd.C_alloc ?_ _) | (with_reducible refine Kd.C_drewN ?_ _) | (with_reducible refine Kd.C_drew ?_))); (case side2 => exact HC0.out); (case side3 => first | exact Globs.below HG.out HB.out | exact Globs.below HG.out (by repeat (first | (with_reducible first | exact HB.out | apply below_alloc | apply pw_below_drewN | apply below_drew1) | exact HB.out)) | (repeat (first | exact HG.out | (with_reducible refine Globs.alloc ?_ _) | (with_reducible refine Globs.drewN ?_ _) | (with_reducible refine Globs.drew ?_)))); rintro e w6 ⟨rfl, hb⟩; refine ⟨_, rfl, ?_⟩; have n0_ := Aside0.mk (below_step (by repeat (first | (with_reducible first | exact HB.out | apply below_alloc | apply pw_below_drewN | apply below_drew1) | exact HB.out)) hb); clear HB; have HB := n0_; clear n0_; (try clear hb); (try clear hb2); (try clear hk); (try clear hi)))
      go_ret
      exact ⟨by first | rfl | (simp [errW_none, errW_some] <;> rfl) | (simp [*, errW_none, errW_some] <;> rfl), by repeat (first | (with_reducible first | exact HB.out | apply below_alloc | apply pw_below_drewN | apply below_drew1) | exact HB.out)⟩

/-! ### bytes_Clone: function 33 -/
def bytes_Clone.f (l0 : List Int) : Option (List Int) := if l0.length < 140737488355328 then some l0 else none
set_option maxHeartbeats 8000000 in
set_option maxRecDepth 100000 in
theorem bytes_Clone.calls (A0 : Option Addr) (c0 : Nat) (l0 r : List Int) (w : World) (hr0 : Kd.C (Kd.int .u8) w A0 l0.length l0) (hc0 : l0.length ≤ c0) (h : bytes_Clone.f l0 = some r) :
    Calls Tryd.prog 33 #[.slice A0 l0.length c0] w fun e w' => ∃ v0_ : Value, e = .returned (v0_) ∧ Kd.R (Kd.int .u8) 5 w' w.heap.size (fun _ => True) v0_ r ∧ Below w.heap.size w w' := by
  have hlt : l0.length < 140737488355328 := by
    unfold bytes_Clone.f at h; split at h
    · assumption
    · simp at h
  have hrl : l0 = r := by
    unfold bytes_Clone.f at h; rw [if_pos hlt] at h; exact Option.some.inj h
  clear h
  subst hrl
  have HR0 := Aside0.mk hr0
  have LM := Aside0.mk hlt
  have HB := Aside0.mk (Below.refl w.heap.size w)
  clear hr0 hlt
  have heq := fun (w : World) (a : Option Addr) (n c : Nat) => Lib.run_eql_slice_nil (P := Tryd.prog) w 22 5 a n c 0 0 Tryd.underlying22
  cases A0 with
  | none =>
    have hl : l0 = [] := by
      cases l0 with
      | nil => rfl
      | cons x l =>
        obtain ⟨ad, e, _⟩ := HR0.out.2.2 (by simp)
        simp at e
    subst hl
    go_enter Tryd.func33, Tryd.ntmps33
    go_wp2
    go_ret
    exact ⟨_, rfl, Kd.R_nil _ _ _ _ _, Below.refl _ _⟩
  | some ad =>
    go_enter Tryd.func33, Tryd.ntmps33
    go_wp2_with (first | ((with_reducible refine gate_dst (N := 5) rfl ?_); refine Kd.R_lit (Kd.int .u8) _ 5 ?hg (N := 5) ?hd (xs := ([] : List Int)) (inner := []) (ok := fun _ => True) (okp := fun _ => True) ?hr ?hp (fun _ hk => hk) trivial (Below.refl _ _) (Nat.le_refl _) (by simp) ?_; (case hd => rfl); (case hg => rfl); (case hr => first | (go_simp; done) | (go_simp; rfl)); (case hp => exact (Reps.none _ _)); intro v102 w4 ho5 hb hg_ hnew_; clear hg_ hnew_; have n0_ := Aside0.mk (Kd.R_lower ho5 (below_size (by repeat (first | (with_reducible first | exact HB.out | apply below_alloc | apply pw_below_drewN | apply below_drew1) | exact HB.out)))); have n1_ := Aside0.mk (below_step (by repeat (first | (with_reducible first | exact HB.out | apply below_alloc | apply pw_below_drewN | apply below_drew1) | exact HB.out)) hb); clear HB; have HO103 := n0_; have HB := n1_; clear n0_ n1_; clear hb ho5) | ((with_reducible refine gate_builtin (b := .append) (xs := #[.tmp 5, .tmp 6]) rfl ?_); at_builtin; refine Kd.R_append_rows (Kd.int .u8) (w0 := w) w.heap.size rfl (.tmp 5) (.tmp 6) 22 5 (.int .u8 0) 1 rfl Tryd.underlying22 info5 rfl (by decide) (by omega) v102 ([] : List Int) l0 _ _ _ (fun _ => True) (fun _ => False) rfl rfl ?aO ?aR (fun _ _ h => h) (fun _ h => h.elim) ?aF ?aB ?aS ?aL ?_; (case aR => repeat (first | exact (Kd.C_below HR0.out HB.out) | (with_reducible refine Kd.C_alloc ?_ _) | (with_reducible refine Kd.C_drewN ?_ _) | (with_reducible refine Kd.C_drew ?_))); (case aB => exact (by repeat (first | (with_reducible first | exact HB.out | apply below_alloc | apply pw_below_drewN | apply below_drew1) | exact HB.out))); (case aF => exact (fun _ _ => trivial)); (case aO => exact (by (with_reducible repeat (first | apply Kd.R_alloc | apply Kd.R_drewN | apply Kd.R_drew)); exact HO103.out)); (case aS => exact (below_size (by repeat (first | (with_reducible first | exact HB.out | apply below_alloc | apply pw_below_drewN | apply below_drew1) | exact HB.out)))); (case aL => have := LM.out; simp; omega); intro v105 w6 ho hb hg hat; have n0_ := Aside0.mk (hb); have n1_ := Aside0.mk (ho); clear HB; clear HO103; have HB := n0_; have HO106 := n1_; clear n0_ n1_; clear ho hb hg hat))
    go_ret
    exact ⟨_, rfl, by (with_reducible repeat (first | apply Kd.R_alloc | apply Kd.R_drewN | apply Kd.R_drew)); exact HO106.out, by repeat (first | (with_reducible first | exact HB.out | apply below_alloc | apply pw_below_drewN | apply below_drew1) | exact HB.out)⟩

/-! ### leb_U: function 25 -/
def leb_U.l0 : Nat → Int → List Int → Option (List Int)
  | 0, _, _ => none
  | k + 1, x1, x5 => if x1 ≥ 128 then (if x5.length < 140737488355328 then (leb_U.l0 k (x1 / 128) (x5 ++ [Go.bits .or .u8 ((x1) % 256) 128])) else (none)) else (if x5.length < 140737488355328 then (some (x5 ++ [(x1) % 256])) else (none))
def leb_U.f (k : Nat) (l0 : List Int) (a1 : Int) : Option (List Int) := (bytes_Clone.f l0).bind fun t269 => (leb_U.l0 k a1 t269)
theorem leb_U.mono_l : ∀ k, (∀ y0 y1, LeO (leb_U.l0 k y0 y1) (leb_U.l0 (k + 1) y0 y1))
  | 0 => fun _ _ r h => by simp [leb_U.l0] at h
  | k + 1 => by
    have ih0 := leb_U.mono_l k
    · intro y0 y1
      unfold leb_U.l0
      repeat' first
      | (with_reducible exact ih0 _ _)
      | (with_reducible exact LeO.refl _)
      | (with_reducible exact LeO.none _)
      | (with_reducible refine LeO.ite ?_ ?_)
      | (with_reducible refine LeO.bind ?_ (fun _ => ?_))
      | exact ih0 _ _
      | exact LeO.none _
      | refine LeO.ite ?_ ?_
      | refine LeO.bind ?_ (fun _ => ?_)
theorem leb_U.mono : ∀ a0 a1 k, LeO (leb_U.f k a0 a1) (leb_U.f (k + 1) a0 a1) := by
  intro a0 a1 k
  have ih0 := leb_U.mono_l k
  unfold leb_U.f
  repeat' first
      | (with_reducible exact ih0 _ _)
      | (with_reducible exact LeO.refl _)
      | (with_reducible exact LeO.none _)
      | (with_reducible refine LeO.ite ?_ ?_)
      | (with_reducible refine LeO.bind ?_ (fun _ => ?_))
      | exact ih0 _ _
      | exact LeO.none _
      | refine LeO.ite ?_ ?_
      | refine LeO.bind ?_ (fun _ => ?_)
set_option maxHeartbeats 8000000 in
set_option maxRecDepth 100000 in
theorem leb_U.calls (k : Nat) (A0 : Option Addr) (c0 : Nat) (l0 : List Int) (a1 : Int) (r : List Int) (w : World) (hr0 : Kd.C (Kd.int .u8) w A0 l0.length l0) (hc0 : l0.length ≤ c0) (h : leb_U.f k l0 a1 = some r) :
    Calls Tryd.prog 25 #[.slice A0 l0.length c0, .int .u64 a1] w fun e w' => ∃ v0_ : Value, e = .returned (v0_) ∧ Kd.R (Kd.int .u8) 5 w' w.heap.size (fun _ => True) v0_ r ∧ Below w.heap.size w w' := by
  have HR0 := Aside0.mk hr0
  have HC0 := Aside0.mk hc0
  clear hr0 hc0
  have HB := Aside0.mk (Below.refl w.heap.size w)
  have H : ((bytes_Clone.f l0).bind fun t269 => (leb_U.l0 k a1 t269)) = some r := h
  clear h
  replace H := Option.bind_eq_some_iff.mp H
  obtain ⟨t269, A30, H⟩ := H
  replace H : (leb_U.l0 k a1 t269) = some r := H
  have A3 := Aside0.mk A30
  clear A30
  have H' := Aside0.mk H
  clear H
  go_enter Tryd.func25, Tryd.ntmps25
  go_wp2_with (first | ((with_reducible refine gate_callee (f := 33) rfl ?_); refine goesL_ (some 7) rfl rfl Tryd.func33 (by kernel_rfl) rfl #[.slice A0 l0.length c0] rfl (by (try simp only [List.map_toArray, List.map_cons, List.map_nil]); first | done | rfl | (simp only [List.length_drop, List.length_take]; rfl)) ?_; (with_reducible refine (bytes_Clone.calls _ _ l0 t269 _ ?side1 ?side2 A3.out).mono ?_); (case side1 => repeat (first | exact HR0.out | (with_reducible refine Kd.C_alloc ?_ _) | (with_reducible refine Kd.C_drewN ?_ _) | (with_reducible refine Kd.C_drew ?_))); (case side2 => exact HC0.out); rintro e w4 ⟨v270, rfl, ho0, hb⟩; refine ⟨_, rfl, ?_⟩; have n0_ := Aside0.mk (Kd.R_lower ho0 (below_size (by repeat (first | (with_reducible first | exact HB.out | apply below_alloc | apply pw_below_drewN | apply below_drew1) | exact HB.out)))); have n1_ := Aside0.mk (below_step (by repeat (first | (with_reducible first | exact HB.out | apply below_alloc | apply pw_below_drewN | apply below_drew1) | exact HB.out)) hb); clear HB; have HO271 := n0_; have HB := n1_; clear n0_ n1_; (try clear hb); (try clear hb2); (try clear hk); (try clear hi); (try clear ho0)))
  go_loopg [1, 5] k (fun kq v1 v5 w' => ∃ (x1_1 : Int) (x5_1 : List Int), v1 = .int .u64 x1_1 ∧ Aside0 (leb_U.l0 kq x1_1 x5_1 = some r) ∧ Aside0 (kq ≤ k) ∧ Aside0 (Kd.R (Kd.int .u8) 5 w' w.heap.size (fun _ => True) v5 x5_1) ∧ Aside0 (Below w.heap.size w w'))
  case atStart => exact ⟨(a1), (t269), (by first | rfl | (simp; done) | (simp [*]; done)), H', ⟨Nat.le_refl _⟩, ⟨by (with_reducible repeat (first | apply Kd.R_alloc | apply Kd.R_drewN | apply Kd.R_drew)); exact HO271.out⟩, ⟨by repeat (first | (with_reducible first | exact HB.out | apply below_alloc | apply pw_below_drewN | apply below_drew1) | exact HB.out)⟩⟩
  case round =>
    clear H'
    try clear c2
    try clear p2
    try clear c3
    obtain ⟨x1_1, x5_1, rfl, HA, HK1, HO_5, HB⟩ := hrel
    cases gk with
    | zero => exact absurd HA.out (by simp [leb_U.l0])
    | succ k1 =>
      have H := HA.out
      clear HA
      simp only [leb_U.l0] at H
      by_cases c5 : x1_1 ≥ 128
      · rw [if_pos c5] at H
        have c5b0 : decide (128 ≤ x1_1) = true := decide_eq_true c5
        clear c5
        by_cases c6 : x5_1.length < 140737488355328
        · rw [if_pos c6] at H
          have LMc6 := Aside0.mk c6
          clear c6
          obtain ⟨y272, hy272⟩ : ∃ y_ : List Int, y_ = (x5_1 ++ [Go.bits .or .u8 ((x1_1) % 256) 128]) := ⟨_, rfl⟩
          replace H : (leb_U.l0 k1 (x1_1 / 128) y272) = some r := by first | (rw [hy272]; with_reducible exact H) | (have H2_ := (Option.bind_some _ _).symm.trans H; rw [hy272]; with_reducible exact H2_) | (have H2_ := (Option.bind_some _ _).symm.trans H; with_reducible exact H2_) | with_reducible exact H | (rw [hy272]; exact H) | exact H
          have Ny272 := Aside0.mk hy272
          clear hy272
          have H' := Aside0.mk H
          clear H
          go_wp2_with (first | ((with_reducible refine gate_builtin (b := .append) (xs := #[.tmp 12, .tmp 16]) rfl ?_); at_builtin; refine Kd.R_append (Kd.int .u8) (w0 := w) w.heap.size rfl (.tmp 12) (.tmp 16) 22 5 (.int .u8 0) 1 rfl Tryd.underlying22 info5 rfl (by decide) (by omega) u5 x5_1 (Go.bits .or .u8 ((x1_1) % 256) 128) [.int .u8 (Go.bits .or .u8 ((x1_1) % 256) 128)] (fun _ => True) (fun _ => False) rfl rfl ?aP (fun _ hk => hk.elim) ?aF ?aO ?aB ?aS ?aL ?_; (case aP => exact rfl); (case aB => exact (by repeat (first | (with_reducible first | exact HB.out | apply below_alloc | apply pw_below_drewN | apply below_drew1) | exact HB.out))); (case aF => exact (fun _ _ => trivial)); (case aO => exact (by (with_reducible repeat (first | apply Kd.R_alloc | apply Kd.R_drewN | apply Kd.R_drew)); exact HO_5.out)); (case aS => exact (below_size (by repeat (first | (with_reducible first | exact HB.out | apply below_alloc | apply pw_below_drewN | apply below_drew1) | exact HB.out)))); (case aL => have := LMc6.out; omega); intro v273 w7 ho hb hg hat; rw [← Ny272.out] at ho; have n0_ := Aside0.mk (hb); have n1_ := Aside0.mk (ho); clear HB; clear HO_5; have HB := n0_; have HO274 := n1_; clear n0_ n1_; clear ho hb hg hat))
          go_roundg k1
          case measure => have := HK1.out; omega
          case rel => exact ⟨(x1_1 / 128), (y272), (by first | rfl | (simp; done) | (simp [*]; done)), H', ⟨by have := HK1.out; omega⟩, ⟨by (with_reducible repeat (first | apply Kd.R_alloc | apply Kd.R_drewN | apply Kd.R_drew)); exact HO274.out⟩, ⟨by repeat (first | (with_reducible first | exact HB.out | apply below_alloc | apply pw_below_drewN | apply below_drew1) | exact HB.out)⟩⟩
        · rw [if_neg c6] at H
          exact absurd H (by simp)
      · rw [if_neg c5] at H
        have c5b0 : decide (128 ≤ x1_1) = false := decide_eq_false c5
        clear c5
        by_cases c8 : x5_1.length < 140737488355328
        · rw [if_pos c8] at H
          have LMc8 := Aside0.mk c8
          clear c8
          obtain ⟨y275, hy275⟩ : ∃ y_ : List Int, y_ = (x5_1 ++ [(x1_1) % 256]) := ⟨_, rfl⟩
          replace H : (some y275) = some r := by first | (rw [hy275]; with_reducible exact H) | (have H2_ := (Option.bind_some _ _).symm.trans H; rw [hy275]; with_reducible exact H2_) | (have H2_ := (Option.bind_some _ _).symm.trans H; with_reducible exact H2_) | with_reducible exact H | (rw [hy275]; exact H) | exact H
          have Ny275 := Aside0.mk hy275
          clear hy275
          obtain rfl := Option.some.inj H
          go_wp2_with (first | ((with_reducible refine gate_builtin (b := .append) (xs := #[.tmp 18, .tmp 21]) rfl ?_); at_builtin; refine Kd.R_append (Kd.int .u8) (w0 := w) w.heap.size rfl (.tmp 18) (.tmp 21) 22 5 (.int .u8 0) 1 rfl Tryd.underlying22 info5 rfl (by decide) (by omega) u5 x5_1 ((x1_1) % 256) [.int .u8 ((x1_1) % 256)] (fun _ => True) (fun _ => False) rfl rfl ?aP (fun _ hk => hk.elim) ?aF ?aO ?aB ?aS ?aL ?_; (case aP => exact rfl); (case aB => exact (by repeat (first | (with_reducible first | exact HB.out | apply below_alloc | apply pw_below_drewN | apply below_drew1) | exact HB.out))); (case aF => exact (fun _ _ => trivial)); (case aO => exact (by (with_reducible repeat (first | apply Kd.R_alloc | apply Kd.R_drewN | apply Kd.R_drew)); exact HO_5.out)); (case aS => exact (below_size (by repeat (first | (with_reducible first | exact HB.out | apply below_alloc | apply pw_below_drewN | apply below_drew1) | exact HB.out)))); (case aL => have := LMc8.out; omega); intro v276 w9 ho hb hg hat; rw [← Ny275.out] at ho; have n0_ := Aside0.mk (hb); have n1_ := Aside0.mk (ho); clear HB; clear HO_5; have HB := n0_; have HO277 := n1_; clear n0_ n1_; clear ho hb hg hat))
          go_ret
          exact ⟨_, by first | rfl | (simp [errW_none, errW_some] <;> rfl) | (simp [*, errW_none, errW_some] <;> rfl), by (with_reducible repeat (first | apply Kd.R_alloc | apply Kd.R_drewN | apply Kd.R_drew)); exact HO277.out, by repeat (first | (with_reducible first | exact HB.out | apply below_alloc | apply pw_below_drewN | apply below_drew1) | exact HB.out)⟩
        · rw [if_neg c8] at H
          exact absurd H (by simp)

/-! ### utf_Lay: function 14 -/
def utf_Lay.f (k : Nat) (l0 : List Int) (a1 : ByteArray) : Option (List Int × Int) := if a1.size < 140737488355328 then ((utf_may.f (bytesOf a1)).bind fun t282 => (if t282 = 0 then ((leb_U.f k l0 (IntKind.u64.wrap ((a1.size : Int)))).bind fun t283 => (if t283.length + a1.size < 140737488355328 then (some ((t283 ++ bytesOf a1), 0)) else (none))) else (some (([] : List Int), t282)))) else (none)
theorem utf_Lay.mono : ∀ a0 a1 k, LeO (utf_Lay.f k a0 a1) (utf_Lay.f (k + 1) a0 a1) := by
  intro a0 a1 k
  unfold utf_Lay.f
  repeat' first
      | (with_reducible exact leb_U.mono _ _ _)
      | (with_reducible exact LeO.refl _)
      | (with_reducible exact LeO.none _)
      | (with_reducible refine LeO.ite ?_ ?_)
      | (with_reducible refine LeO.bind ?_ (fun _ => ?_))
      | exact leb_U.mono _ _ _
      | exact LeO.none _
      | refine LeO.ite ?_ ?_
      | refine LeO.bind ?_ (fun _ => ?_)
set_option maxHeartbeats 8000000 in
set_option maxRecDepth 100000 in
theorem utf_Lay.calls (k : Nat) (A0 : Option Addr) (c0 : Nat) (l0 : List Int) (a1 : ByteArray) (r1 : List Int) (r2 : Int) (w : World) (hG : Globs w) (hr0 : Kd.C (Kd.int .u8) w A0 l0.length l0) (hc0 : l0.length ≤ c0) (h : utf_Lay.f k l0 a1 = some (r1, r2)) :
    Calls Tryd.prog 14 #[.slice A0 l0.length c0, .string a1] w fun e w' => ∃ v0_ : Value, e = .returned (.tuple #[v0_, .int .i64 r2]) ∧ Kd.R (Kd.int .u8) 5 w' w.heap.size (fun _ => True) v0_ r1 ∧ Below w.heap.size w w' := by
  have HG := Aside0.mk hG
  clear hG
  have HR0 := Aside0.mk hr0
  have HC0 := Aside0.mk hc0
  clear hr0 hc0
  have HB := Aside0.mk (Below.refl w.heap.size w)
  have H : (if a1.size < 140737488355328 then ((utf_may.f (bytesOf a1)).bind fun t282 => (if t282 = 0 then ((leb_U.f k l0 (IntKind.u64.wrap ((a1.size : Int)))).bind fun t283 => (if t283.length + a1.size < 140737488355328 then (some ((t283 ++ bytesOf a1), 0)) else (none))) else (some (([] : List Int), t282)))) else (none)) = some (r1, r2) := h
  clear h
  by_cases c3 : a1.size < 140737488355328
  · rw [if_pos c3] at H
    have c3b0 := eq_true c3
    have c3b1 : decide (a1.size < 140737488355328) = true := decide_eq_true c3
    clear c3
    obtain ⟨y278, hy278⟩ : ∃ y_ : List Int, y_ = (bytesOf a1) := ⟨_, rfl⟩
    replace H : ((utf_may.f y278).bind fun t282 => (if t282 = 0 then ((leb_U.f k l0 (IntKind.u64.wrap ((a1.size : Int)))).bind fun t283 => (if t283.length + a1.size < 140737488355328 then (some ((t283 ++ bytesOf a1), 0)) else (none))) else (some (([] : List Int), t282)))) = some (r1, r2) := by first | (rw [hy278]; with_reducible exact H) | (have H2_ := (Option.bind_some _ _).symm.trans H; rw [hy278]; with_reducible exact H2_) | (have H2_ := (Option.bind_some _ _).symm.trans H; with_reducible exact H2_) | with_reducible exact H | (rw [hy278]; exact H) | exact H
    have Ny278 := Aside0.mk hy278
    clear hy278
    replace H := Option.bind_eq_some_iff.mp H
    obtain ⟨t282, A40, H⟩ := H
    replace H : (if t282 = 0 then ((leb_U.f k l0 (IntKind.u64.wrap ((a1.size : Int)))).bind fun t283 => (if t283.length + a1.size < 140737488355328 then (some ((t283 ++ bytesOf a1), 0)) else (none))) else (some (([] : List Int), t282))) = some (r1, r2) := H
    have A4 := Aside0.mk A40
    clear A40
    by_cases c5 : t282 = 0
    · rw [if_pos c5] at H
      have c5b0 : (t282 == 0) = true := beq_iff_eq.mpr c5
      have c5b1 : (t282 != 0) = false := bne_eq_false_iff_eq.mpr c5
      clear c5
      replace H := Option.bind_eq_some_iff.mp H
      obtain ⟨t283, A60, H⟩ := H
      replace H : (if t283.length + a1.size < 140737488355328 then (some ((t283 ++ bytesOf a1), 0)) else (none)) = some (r1, r2) := H
      have A6 := Aside0.mk A60
      clear A60
      by_cases c7 : t283.length + a1.size < 140737488355328
      · rw [if_pos c7] at H
        have LMc7 := Aside0.mk c7
        clear c7
        obtain ⟨y286, hy286⟩ : ∃ y_ : List Int, y_ = (t283 ++ bytesOf a1) := ⟨_, rfl⟩
        replace H : (some (y286, 0)) = some (r1, r2) := by first | (rw [hy286]; with_reducible exact H) | (have H2_ := (Option.bind_some _ _).symm.trans H; rw [hy286]; with_reducible exact H2_) | (have H2_ := (Option.bind_some _ _).symm.trans H; with_reducible exact H2_) | with_reducible exact H | (rw [hy286]; exact H) | exact H
        have Ny286 := Aside0.mk hy286
        clear hy286
        simp only [Option.some.injEq, Prod.mk.injEq] at H
        obtain ⟨rfl, rfl⟩ := H
        go_enter Tryd.func14, Tryd.ntmps14
        go_wp2_with (first | ((with_reducible refine gate_dst (N := 8) rfl ?_); refine conv_event ?hg (N := 8) ?hd (s := a1) (e := 5) Ny278.out ?hr ?hz ?_; (case hd => rfl); (case hg => rfl); (case hr => have kb_ := print_bytes (P := Tryd.prog) 9 22 5 Tryd.underlying9 Tryd.underlying22 Tryd.underlying5 a1; first | (go_simp; done) | (go_simp; rfl)); (case hz => have h_ : (a1.size < 140737488355328) := of_decide_eq_true (by first | (with_reducible assumption) | assumption); omega); intro A281 c281 w8 hr hc hb; have n0_ := Aside0.mk (below_step (by repeat (first | (with_reducible first | exact HB.out | apply below_alloc | apply pw_below_drewN | apply below_drew1) | exact HB.out)) hb); have n1_ := Aside0.mk (hr); have n2_ := Aside0.mk (hc); clear HB; have HB := n0_; have HR281 := n1_; have HC281 := n2_; clear n0_ n1_ n2_; clear hb hr hc) | ((with_reducible refine gate_callee (f := 24) rfl ?_); refine goesL_ (some 9) rfl rfl Tryd.func24 (by kernel_rfl) rfl #[.slice A281 y278.length c281] rfl (by (try simp only [List.map_toArray, List.map_cons, List.map_nil]); first | done | rfl | (simp only [List.length_drop, List.length_take]; rfl)) ?_; (with_reducible refine (utf_may.calls _ _ y278 t282 _ ?side3 ?side1 ?side2 A4.out).mono ?_); (case side1 => repeat (first | exact HR281.out | (with_reducible refine Kd.C_drewN ?_ _) | (with_reducible refine Kd.C_drew ?_))); (case side2 => exact HC281.out); (case side3 => first | exact Globs.below HG.out HB.out | exact Globs.below HG.out (by repeat (first | (with_reducible first | exact HB.out | apply below_alloc | apply pw_below_drewN | apply below_drew1) | exact HB.out)) | (repeat (first | exact HG.out | (with_reducible refine Globs.alloc ?_ _) | (with_reducible refine Globs.drewN ?_ _) | (with_reducible refine Globs.drew ?_)))); rintro e w9 ⟨rfl, hb⟩; refine ⟨_, rfl, ?_⟩; have n0_ := Aside0.mk (below_step (by repeat (first | (with_reducible first | exact HB.out | apply below_alloc | apply pw_below_drewN | apply below_drew1) | exact HB.out)) hb); clear HB; have HB := n0_; clear n0_; (try clear hb); (try clear hb2); (try clear hk); (try clear hi)) | ((with_reducible refine gate_callee (f := 25) rfl ?_); refine goesL_ (some 17) rfl rfl Tryd.func25 (by kernel_rfl) rfl #[.slice A0 l0.length c0, .int .u64 (IntKind.u64.wrap ((a1.size : Int)))] rfl (by (try simp only [List.map_toArray, List.map_cons, List.map_nil]); first | done | rfl | (simp only [List.length_drop, List.length_take]; rfl)) ?_; (with_reducible refine (leb_U.calls k _ _ l0 (IntKind.u64.wrap ((a1.size : Int))) t283 _ ?side1 ?side2 A6.out).mono ?_); (case side1 => repeat (first | exact (Kd.C_below HR0.out HB.out) | (with_reducible refine Kd.C_alloc ?_ _) | (with_reducible refine Kd.C_drewN ?_ _) | (with_reducible refine Kd.C_drew ?_))); (case side2 => exact HC0.out); rintro e w10 ⟨v284, rfl, ho0, hb⟩; refine ⟨_, rfl, ?_⟩; have n0_ := Aside0.mk (Kd.R_lower ho0 (below_size (by repeat (first | (with_reducible first | exact HB.out | apply below_alloc | apply pw_below_drewN | apply below_drew1) | exact HB.out)))); have n1_ := Aside0.mk (below_step (by repeat (first | (with_reducible first | exact HB.out | apply below_alloc | apply pw_below_drewN | apply below_drew1) | exact HB.out)) hb); clear HB; have HO285 := n0_; have HB := n1_; clear n0_ n1_; (try clear hb); (try clear hb2); (try clear hk); (try clear hi); (try clear ho0)) | (at_builtin; refine print_append_str (w0 := w) w.heap.size rfl (.tmp 17) _ 22 9 5 rfl Tryd.underlying22 Tryd.underlying9 info5 v284 t283 a1 rfl rfl ?aO ?aB ?aS ?aL ?_; (case aB => exact (by repeat (first | (with_reducible first | exact HB.out | apply below_alloc | apply pw_below_drewN | apply below_drew1) | exact HB.out))); (case aO => exact (Kd.own_of_R (by (with_reducible repeat (first | apply Kd.R_alloc | apply Kd.R_drewN | apply Kd.R_drew)); exact HO285.out))); (case aS => exact (below_size (by repeat (first | (with_reducible first | exact HB.out | apply below_alloc | apply pw_below_drewN | apply below_drew1) | exact HB.out)))); (case aL => have := LMc7.out; omega); intro v287 w11 ho0 hb hg; have ho := Kd.R_of_own (h1 := fun _ => rfl) (ok := fun _ => True) ho0 (fun _ _ => trivial); clear ho0; have hat := True.intro; rw [← Ny286.out] at ho; change Kd.R (Kd.int .u8) 5 w11 w.heap.size (fun _ => True) v287 y286 at ho; have n0_ := Aside0.mk (hb); have n1_ := Aside0.mk (ho); clear HB; clear HO285; have HB := n0_; have HO288 := n1_; clear n0_ n1_; clear ho hb hg hat))
        go_ret2
        exact ⟨_, by first | rfl | (simp [errW_none, errW_some] <;> rfl) | (simp [*, errW_none, errW_some] <;> rfl), by (with_reducible repeat (first | apply Kd.R_alloc | apply Kd.R_drewN | apply Kd.R_drew)); exact HO288.out, by repeat (first | (with_reducible first | exact HB.out | apply below_alloc | apply pw_below_drewN | apply below_drew1) | exact HB.out)⟩
      · rw [if_neg c7] at H
        exact absurd H (by simp)
    · rw [if_neg c5] at H
      have c5b0 : (t282 == 0) = false := beq_eq_false_iff_ne.mpr c5
      have c5b1 : (t282 != 0) = true := bne_iff_ne.mpr c5
      simp only [Option.some.injEq, Prod.mk.injEq] at H
      obtain ⟨rfl, rfl⟩ := H
      go_enter Tryd.func14, Tryd.ntmps14
      go_wp2_with (first | ((with_reducible refine gate_dst (N := 8) rfl ?_); refine conv_event ?hg (N := 8) ?hd (s := a1) (e := 5) Ny278.out ?hr ?hz ?_; (case hd => rfl); (case hg => rfl); (case hr => have kb_ := print_bytes (P := Tryd.prog) 9 22 5 Tryd.underlying9 Tryd.underlying22 Tryd.underlying5 a1; first | (go_simp; done) | (go_simp; rfl)); (case hz => have h_ : (a1.size < 140737488355328) := of_decide_eq_true (by first | (with_reducible assumption) | assumption); omega); intro A281 c281 w12 hr hc hb; have n0_ := Aside0.mk (below_step (by repeat (first | (with_reducible first | exact HB.out | apply below_alloc | apply pw_below_drewN | apply below_drew1) | exact HB.out)) hb); have n1_ := Aside0.mk (hr); have n2_ := Aside0.mk (hc); clear HB; have HB := n0_; have HR281 := n1_; have HC281 := n2_; clear n0_ n1_ n2_; clear hb hr hc) | ((with_reducible refine gate_callee (f := 24) rfl ?_); refine goesL_ (some 9) rfl rfl Tryd.func24 (by kernel_rfl) rfl #[.slice A281 y278.length c281] rfl (by (try simp only [List.map_toArray, List.map_cons, List.map_nil]); first | done | rfl | (simp only [List.length_drop, List.length_take]; rfl)) ?_; (with_reducible refine (utf_may.calls _ _ y278 t282 _ ?side3 ?side1 ?side2 A4.out).mono ?_); (case side1 => repeat (first | exact HR281.out | (with_reducible refine Kd.C_drewN ?_ _) | (with_reducible refine Kd.C_drew ?_))); (case side2 => exact HC281.out); (case side3 => first | exact Globs.below HG.out HB.out | exact Globs.below HG.out (by repeat (first | (with_reducible first | exact HB.out | apply below_alloc | apply pw_below_drewN | apply below_drew1) | exact HB.out)) | (repeat (first | exact HG.out | (with_reducible refine Globs.alloc ?_ _) | (with_reducible refine Globs.drewN ?_ _) | (with_reducible refine Globs.drew ?_)))); rintro e w13 ⟨rfl, hb⟩; refine ⟨_, rfl, ?_⟩; have n0_ := Aside0.mk (below_step (by repeat (first | (with_reducible first | exact HB.out | apply below_alloc | apply pw_below_drewN | apply below_drew1) | exact HB.out)) hb); clear HB; have HB := n0_; clear n0_; (try clear hb); (try clear hb2); (try clear hk); (try clear hi)))
      go_ret2
      exact ⟨_, by first | rfl | (simp [errW_none, errW_some] <;> rfl) | (simp [*, errW_none, errW_some] <;> rfl), by first | exact Kd.R_nil _ _ _ _ _ | exact Kd.N_nil _ _ _ _ _ | exact Kd.V_nil _ _ _ _ _ | exact Kd.Q_nil _ _ _ _ _ | exact Kd.S_nil _ _ _ _ _, by repeat (first | (with_reducible first | exact HB.out | apply below_alloc | apply pw_below_drewN | apply below_drew1) | exact HB.out)⟩
  · rw [if_neg c3] at H
    exact absurd H (by simp)

-- NOT PRINTED: function 36 (leb_taker)

/-! ### leb_read: function 34 -/
def lebR_TK (w0 W : World) (Ba Bp Bb : Nat) (A : Option Addr) (n c : Nat) (at_ : Int) : Prop :=
  Below w0.heap.size w0 W ∧ w0.heap.size ≤ Ba ∧ Ba ≠ Bp ∧ Ba ≠ Bb ∧ W.heap[Ba]? = some (.cells #[.int .i64 at_] 3 (0, 0)) ∧ W.heap[Bp]? = some (.cells #[.pointer (some ⟨Ba, 0, none⟩)] 66 (0, 0)) ∧ W.heap[Bb]? = some (.cells #[.slice A n c] 22 (0, 0))
theorem lebR_TK.drewN {w0 W : World} {Ba Bp Bb : Nat} {A : Option Addr} {n c : Nat} {x : Int} (h : lebR_TK w0 W Ba Bp Bb A n c x) (m : Nat) : lebR_TK w0 (W.drewN m) Ba Bp Bb A n c x :=
  ⟨pw_below_drewN h.1 m, h.2.1, h.2.2.1, h.2.2.2.1, h.2.2.2.2.1, h.2.2.2.2.2.1, h.2.2.2.2.2.2⟩
theorem lebR_TK.set {w0 W : World} {Ba Bp Bb : Nat} {A : Option Addr} {n c : Nat} {x : Int} (h : lebR_TK w0 W Ba Bp Bb A n c x) (y : Int) : lebR_TK w0 (W.setCell ⟨Ba, 0, none⟩ (.int .i64 y)) Ba Bp Bb A n c y :=
  ⟨h.1.setCell h.2.1 _, h.2.1, h.2.2.1, h.2.2.2.1, one_setCell h.2.2.2.2.1, (Below.heap_setCell W ⟨Ba, 0, none⟩ _ Bp (by have := h.2.2.1; simpa using this.symm)).trans h.2.2.2.2.2.1, (Below.heap_setCell W ⟨Ba, 0, none⟩ _ Bb (by have := h.2.2.2.1; simpa using this.symm)).trans h.2.2.2.2.2.2⟩
set_option maxHeartbeats 8000000 in
set_option maxRecDepth 100000 in
theorem lebR_taker1_yes (w0 w : World) (Ba Bp Bb : Nat) (A : Option Addr) (c : Nat) (l : List Int) (x : Int) (hT : lebR_TK w0 w Ba Bp Bb A l.length c x) (hr : Kd.C (Kd.int .u8) w0 A l.length l) (h0 : 0 ≤ x) (h1 : x < l.length) :
    Calls Tryd.prog 37 #[.pointer (some ⟨Bp, 0, none⟩), .pointer (some ⟨Bb, 0, none⟩)] w fun e w' => e = .returned (.tuple #[.int .u8 (rd l x), .int .i64 0]) ∧ lebR_TK w0 w' Ba Bp Bb A l.length c (x + 1) := by
  have HT := Aside0.mk hT
  have cA := cell_of_one hT.2.2.2.2.1
  have cP := cell_of_one hT.2.2.2.2.2.1
  have cB := cell_of_one hT.2.2.2.2.2.2
  have fA := free_of_one hT.2.2.2.2.1
  have hlen := hr.2.1
  obtain ⟨ad, e1, hx⟩ := Kd.at_int hr x h0 h1
  cases e1
  replace hx := (hT.1.cell (World.block_lt_of_cell? w0 _ hx)).trans hx
  clear hT hr
  have p := eq_true h0
  have q := eq_true h1
  have d1 : decide ((l.length : Int) ≤ x) = false := decide_eq_false (by omega)
  go_enter Tryd.func37, Tryd.ntmps37
  go_wp2
  go_quiet (fail)
  go_wp2
  go_quiet (fail)
  go_wp2
  go_ret2
  exact ⟨rfl, (HT.out.drewN _).set _⟩
set_option maxHeartbeats 8000000 in
set_option maxRecDepth 100000 in
theorem lebR_taker1_no (w0 w : World) (Ba Bp Bb : Nat) (A : Option Addr) (n c : Nat) (x : Int) (hT : lebR_TK w0 w Ba Bp Bb A n c x) (h1 : (n : Int) ≤ x) :
    Calls Tryd.prog 37 #[.pointer (some ⟨Bp, 0, none⟩), .pointer (some ⟨Bb, 0, none⟩)] w fun e w' => e = .returned (.tuple #[.int .u8 0, .int .i64 2]) ∧ lebR_TK w0 w' Ba Bp Bb A n c x := by
  have HT := Aside0.mk hT
  have cA := cell_of_one hT.2.2.2.2.1
  have cP := cell_of_one hT.2.2.2.2.2.1
  have cB := cell_of_one hT.2.2.2.2.2.2
  clear hT
  have d1 : decide ((n : Int) ≤ x) = true := decide_eq_true (by omega)
  go_enter Tryd.func37, Tryd.ntmps37
  go_wp2
  go_quiet (fail)
  go_wp2
  go_ret2
  exact ⟨rfl, (HT.out.drewN _)⟩
set_option maxHeartbeats 8000000 in
set_option maxRecDepth 100000 in
theorem lebR_taker_any (w : World) (A : Option Addr) (n c : Nat) (p : Addr) :
    Calls Tryd.prog 36 #[.slice A n c, .pointer (some p)] w fun e w' => e = .returned (.func (Fn.func 37) #[] #[.pointer (some ⟨w.heap.size + 1, 0, none⟩), .pointer (some ⟨w.heap.size, 0, none⟩)]) ∧ (w.alloc (.cells #[.slice A n c] 22)).alloc (.cells #[.pointer (some p)] 66) = w' := by
  go_enter Tryd.func36, Tryd.ntmps36
  go_wp2
  go_ret
  exact ⟨rfl, rfl⟩
theorem lebR_TK.start (w : World) (A : Option Addr) (n c : Nat) (x : Int) : lebR_TK w (((w.alloc (Obj.cells #[Value.int IntKind.i64 x] 3)).alloc (Obj.cells #[Value.slice A n c] 22)).alloc (Obj.cells #[Value.pointer (some { block := w.heap.size, off := 0 })] 66)) w.heap.size (w.heap.size + 1 + 1) (w.heap.size + 1) A n c x := by
  refine ⟨below_alloc (below_alloc (below_alloc (Below.refl _ _) _) _) _, Nat.le_refl _, by omega, by omega, ?_, ?_, ?_⟩
  · rw [heap_alloc_old _ _ (by simp; omega), heap_alloc_old _ _ (by simp)]; exact heap_alloc_new _ _
  · simpa using heap_alloc_new ((w.alloc (Obj.cells #[Value.int IntKind.i64 x] 3)).alloc (Obj.cells #[Value.slice A n c] 22)) (Obj.cells #[Value.pointer (some { block := w.heap.size, off := 0 })] 66)
  · rw [heap_alloc_old _ _ (by simp)]; simpa using heap_alloc_new (w.alloc (Obj.cells #[Value.int IntKind.i64 x] 3)) (Obj.cells #[Value.slice A n c] 22)
def leb_read.l0 : Nat → List Int → Int → Int → Int → Int → Option (Int × Int × Int × Int × Int)
  | 0, _, _, _, _, _ => none
  | k + 1, l, m, x, v, n =>
    if x < (l.length : Int) then
      (if rd l x < 128 then some (bits .or .u64 v (IntKind.u64.wrap (IntKind.u64.wrap (bits .and .u8 (rd l x) 127) * 2 ^ (7 * n).toNat)), 7 * (n + 1), rd l x, x + 1, 0)
       else (if n + 1 = m then some (0, 0, 0, 0, 3) else leb_read.l0 k l m (x + 1) (bits .or .u64 v (IntKind.u64.wrap (IntKind.u64.wrap (bits .and .u8 (rd l x) 127) * 2 ^ (7 * n).toNat))) (n + 1)))
    else some (0, 0, 0, 0, 2)
def leb_read.f (l0 : List Int) (a1 a2 : Int) : Option (Int × Int × Int × Int × Int) :=
  if 1 ≤ a2 ∧ a2 ≤ 64 ∧ 0 ≤ a1 ∧ a1 ≤ (l0.length : Int) then leb_read.l0 11 l0 ((a2 + 7 - 1) / 7) a1 0 0 else some (0, 0, 0, 0, 1)
set_option maxHeartbeats 8000000 in
set_option maxRecDepth 100000 in
theorem leb_read.calls (A0 : Option Addr) (c0 : Nat) (l0 : List Int) (a1 a2 r1 r2 r3 r4 r5 : Int) (w : World) (hr0 : Kd.C (Kd.int .u8) w A0 l0.length l0) (hc0 : l0.length ≤ c0) (h : leb_read.f l0 a1 a2 = some (r1, r2, r3, r4, r5)) :
    Calls Tryd.prog 34 #[.slice A0 l0.length c0, .int .i64 a1, .int .i64 a2] w fun e w' => e = .returned (.tuple #[.int .u64 r1, .int .i64 r2, .int .u8 r3, .int .i64 r4, .int .i64 r5]) ∧ Below w.heap.size w w' := by
  have HR0 := Aside0.mk hr0
  have hlen := hr0.2.1
  clear hr0 hc0
  unfold leb_read.f at h
  by_cases hb : 1 ≤ a2 ∧ a2 ≤ 64 ∧ 0 ≤ a1 ∧ a1 ≤ (l0.length : Int)
  · rw [if_pos hb] at h
    have H := Aside0.mk h
    clear h
    obtain ⟨h3, h4, h1, h2⟩ := hb
    have d1 : decide (a2 < 1) = false := decide_eq_false (by omega)
    have d2 : decide (64 < a2) = false := decide_eq_false (by omega)
    have d3 : decide (a1 < 0) = false := decide_eq_false (by omega)
    have d4 : decide ((l0.length : Int) < a1) = false := decide_eq_false (by omega)
    go_enter Tryd.func34, Tryd.ntmps34
    go_wp2_with (go_at_call 36; refine (lebR_taker_any _ _ _ _ _).mono ?_; rintro e w' ⟨rfl, rfl⟩)
    go_loopg [13, 14] 11 (fun kq v13 v14 w' => ∃ (x13 x14 x : Int), v13 = .int .u64 x13 ∧ v14 = .int .i64 x14 ∧ 0 ≤ x14 ∧ x14 < 10 ∧ Aside0 (x14 < (a2 + 7 - 1) / 7) ∧ Aside0 (leb_read.l0 kq l0 ((a2 + 7 - 1) / 7) x x13 x14 = some (r1, r2, r3, r4, r5)) ∧ Aside0 (0 ≤ x) ∧ Aside0 (lebR_TK w w' w.heap.size (w.heap.size + 1 + 1) (w.heap.size + 1) A0 l0.length c0 x))
    case atStart => exact ⟨0, 0, a1, rfl, rfl, by omega, by omega, ⟨by omega⟩, H, ⟨h1⟩, ⟨lebR_TK.start _ _ _ _ _⟩⟩
    case round =>
      clear H
      obtain ⟨x13, x14, x, rfl, rfl, g0, g1, G2, H, HX, HT⟩ := hrel
      cases gk with
      | zero => exact absurd H.out (by simp [leb_read.l0])
      | succ k1 =>
        have H0 := H.out
        clear H
        simp only [leb_read.l0] at H0
        by_cases cx : x < l0.length
        · rw [if_pos cx] at H0
          have HCX := Aside0.mk cx
          clear cx
          by_cases c1 : rd l0 x < 128
          · rw [if_pos c1] at H0
            have H := Aside0.mk H0
            clear H0
            go_wp2_with (go_at_call 37; refine (lebR_taker1_yes w _ _ _ _ _ _ l0 x HT.out HR0.out HX.out HCX.out).mono ?_; rintro e w1 ⟨rfl, HT1⟩; have cA := cell_of_one HT1.2.2.2.2.1; have HT1 := Aside0.mk HT1)
            go_quiet (fail)
            go_wp2
            have H := H.out
            simp only [Option.some.injEq, Prod.mk.injEq] at H
            obtain ⟨rfl, rfl, rfl, rfl, rfl⟩ := H
            exact bodyPost_ret (v := .tuple #[.int .u64 _, .int .i64 _, .int .u8 _, .int .i64 _, .int .i64 _]) (by simp [results, Tryd.results34, go_sem]) rfl ⟨rfl, pw_below_drewN HT1.out.1 _⟩
          · rw [if_neg c1] at H0
            by_cases c2 : x14 + 1 = (a2 + 7 - 1) / 7
            · rw [if_pos c2] at H0
              have H := Aside0.mk H0
              clear H0
              have e2 : (x14 + 1 == (a2 + 7 - 1) / 7) = true := beq_iff_eq.mpr c2
              clear c2
              go_wp2_with (go_at_call 37; refine (lebR_taker1_yes w _ _ _ _ _ _ l0 x HT.out HR0.out HX.out HCX.out).mono ?_; rintro e w1 ⟨rfl, HT1⟩; have HT1 := Aside0.mk HT1)
              have H := H.out
              simp only [Option.some.injEq, Prod.mk.injEq] at H
              obtain ⟨rfl, rfl, rfl, rfl, rfl⟩ := H
              exact bodyPost_ret (v := .tuple #[.int .u64 0, .int .i64 0, .int .u8 0, .int .i64 0, .int .i64 _]) (by simp [results, Tryd.results34, go_sem]) rfl ⟨rfl, HT1.out.1⟩
            · rw [if_neg c2] at H0
              have H := Aside0.mk H0
              clear H0
              have e2 : (x14 + 1 == (a2 + 7 - 1) / 7) = false := beq_eq_false_iff_ne.mpr c2
              have G3 : Aside0 (x14 + 1 < (a2 + 7 - 1) / 7) := ⟨by have := G2.out; omega⟩
              clear c2
              go_wp2_with (go_at_call 37; refine (lebR_taker1_yes w _ _ _ _ _ _ l0 x HT.out HR0.out HX.out HCX.out).mono ?_; rintro e w1 ⟨rfl, HT1⟩; have HT1 := Aside0.mk HT1)
              go_roundg k1
              case measure => omega
              case rel => exact ⟨_, x14 + 1, x + 1, rfl, rfl, by omega, by have := G3.out; omega, G3, H, ⟨by have := HX.out; omega⟩, HT1⟩
        · rw [if_neg cx] at H0
          have HCX := Aside0.mk cx
          clear cx
          have H := Aside0.mk H0
          clear H0
          go_wp2_with (go_at_call 37; refine (lebR_taker1_no w _ _ _ _ _ _ _ x HT.out (by have := HCX.out; omega)).mono ?_; rintro e w1 ⟨rfl, HT1⟩; have HT1 := Aside0.mk HT1)
          have H := H.out
          simp only [Option.some.injEq, Prod.mk.injEq] at H
          obtain ⟨rfl, rfl, rfl, rfl, rfl⟩ := H
          exact bodyPost_ret (v := .tuple #[.int .u64 0, .int .i64 0, .int .u8 0, .int .i64 0, .int .i64 _]) (by simp [results, Tryd.results34, go_sem]) rfl ⟨rfl, HT1.out.1⟩
  · rw [if_neg hb] at h
    simp only [Option.some.injEq, Prod.mk.injEq] at h
    obtain ⟨rfl, rfl, rfl, rfl, rfl⟩ := h
    by_cases h1 : a2 < 1
    · have d1 : decide (a2 < 1) = true := decide_eq_true h1
      clear hb
      go_enter Tryd.func34, Tryd.ntmps34
      go_wp2
      exact bodyPost_ret (v := .tuple #[.int .u64 0, .int .i64 0, .int .u8 0, .int .i64 0, .int .i64 1]) (by simp [results, Tryd.results34, go_sem]) rfl ⟨rfl, below_alloc (Below.refl _ _) _⟩
    · have d1 : decide (a2 < 1) = false := decide_eq_false h1
      by_cases h2 : 64 < a2
      · have d2 : decide (64 < a2) = true := decide_eq_true h2
        clear hb
        go_enter Tryd.func34, Tryd.ntmps34
        go_wp2
        exact bodyPost_ret (v := .tuple #[.int .u64 0, .int .i64 0, .int .u8 0, .int .i64 0, .int .i64 1]) (by simp [results, Tryd.results34, go_sem]) rfl ⟨rfl, below_alloc (Below.refl _ _) _⟩
      · have d2 : decide (64 < a2) = false := decide_eq_false h2
        by_cases h3 : a1 < 0
        · have d3 : decide (a1 < 0) = true := decide_eq_true h3
          clear hb
          go_enter Tryd.func34, Tryd.ntmps34
          go_wp2
          exact bodyPost_ret (v := .tuple #[.int .u64 0, .int .i64 0, .int .u8 0, .int .i64 0, .int .i64 1]) (by simp [results, Tryd.results34, go_sem]) rfl ⟨rfl, below_alloc (Below.refl _ _) _⟩
        · have d3 : decide (a1 < 0) = false := decide_eq_false h3
          have d4 : decide ((l0.length : Int) < a1) = true := decide_eq_true (by omega)
          clear hb
          go_enter Tryd.func34, Tryd.ntmps34
          go_wp2
          exact bodyPost_ret (v := .tuple #[.int .u64 0, .int .i64 0, .int .u8 0, .int .i64 0, .int .i64 1]) (by simp [results, Tryd.results34, go_sem]) rfl ⟨rfl, below_alloc (Below.refl _ _) _⟩

/-! ### leb_ReadU: function 26 -/
def leb_ReadU.f (l0 : List Int) (a1 : Int) (a2 : Int) : Option (Int × Int × Int) := (leb_read.f l0 a1 a2).bind fun bt289 => (if bt289.2.2.2.2 = 0 then (if bt289.2.1 > a2 then (if 0 ≤ (wrap64 (7 - (wrap64 (bt289.2.1 - a2)))) then (if (shr .u8 bt289.2.2.1 (wrap64 (7 - (wrap64 (bt289.2.1 - a2))))) = 0 then (some (bt289.1, bt289.2.2.2.1, 0)) else (some (0, 0, 3))) else (none)) else (some (bt289.1, bt289.2.2.2.1, 0))) else (some (0, 0, bt289.2.2.2.2)))
set_option maxHeartbeats 8000000 in
set_option maxRecDepth 100000 in
theorem leb_ReadU.calls (A0 : Option Addr) (c0 : Nat) (l0 : List Int) (a1 : Int) (a2 : Int) (r1 : Int) (r2 : Int) (r3 : Int) (w : World) (hr0 : Kd.C (Kd.int .u8) w A0 l0.length l0) (hc0 : l0.length ≤ c0) (h : leb_ReadU.f l0 a1 a2 = some (r1, r2, r3)) :
    Calls Tryd.prog 26 #[.slice A0 l0.length c0, .int .i64 a1, .int .i64 a2] w fun e w' => e = .returned (.tuple #[.int .u64 r1, .int .i64 r2, .int .i64 r3]) ∧ Below w.heap.size w w' := by
  have HR0 := Aside0.mk hr0
  have HC0 := Aside0.mk hc0
  clear hr0 hc0
  have HB := Aside0.mk (Below.refl w.heap.size w)
  have H : ((leb_read.f l0 a1 a2).bind fun bt289 => (if bt289.2.2.2.2 = 0 then (if bt289.2.1 > a2 then (if 0 ≤ (wrap64 (7 - (wrap64 (bt289.2.1 - a2)))) then (if (shr .u8 bt289.2.2.1 (wrap64 (7 - (wrap64 (bt289.2.1 - a2))))) = 0 then (some (bt289.1, bt289.2.2.2.1, 0)) else (some (0, 0, 3))) else (none)) else (some (bt289.1, bt289.2.2.2.1, 0))) else (some (0, 0, bt289.2.2.2.2)))) = some (r1, r2, r3) := h
  clear h
  replace H := Option.bind_eq_some_iff.mp H
  obtain ⟨⟨t289, t290, t291, t292, t293⟩, A40, H⟩ := H
  replace H : (if t293 = 0 then (if t290 > a2 then (if 0 ≤ (wrap64 (7 - (wrap64 (t290 - a2)))) then (if (shr .u8 t291 (wrap64 (7 - (wrap64 (t290 - a2))))) = 0 then (some (t289, t292, 0)) else (some (0, 0, 3))) else (none)) else (some (t289, t292, 0))) else (some (0, 0, t293))) = some (r1, r2, r3) := H
  have A4 := Aside0.mk A40
  clear A40
  by_cases c5 : t293 = 0
  · rw [if_pos c5] at H
    have c5b0 : (t293 == 0) = true := beq_iff_eq.mpr c5
    have c5b1 : (t293 != 0) = false := bne_eq_false_iff_eq.mpr c5
    clear c5
    by_cases c6 : t290 > a2
    · rw [if_pos c6] at H
      have c6b0 : decide (a2 < t290) = true := decide_eq_true c6
      clear c6
      obtain ⟨ji7, hji7⟩ : ∃ j_ : Int, (wrap64 (7 - (wrap64 (t290 - a2)))) = j_ := ⟨_, rfl⟩
      replace H : (if 0 ≤ (ji7) then (if (shr .u8 t291 (ji7)) = 0 then (some (t289, t292, 0)) else (some (0, 0, 3))) else (none)) = some (r1, r2, r3) := by first | (rw [hji7] at H; exact H) | (simp only [hji7] at H ⊢; exact H)
      (try rw [hji7] at A4)
      have hji7w : (IntKind.i64.wrap (7 - (wrap64 (t290 - a2)))) = ji7 := (i64_w _).trans hji7
      by_cases c8 : 0 ≤ (ji7)
      · rw [if_pos c8] at H
        have c8b0 := eq_true c8
        have c8b1 : decide (0 ≤ (ji7)) = true := decide_eq_true c8
        clear c8
        obtain ⟨ji9, hji9⟩ : ∃ j_ : Int, (shr .u8 t291 (ji7)) = j_ := ⟨_, rfl⟩
        replace H : (if (ji9) = 0 then (some (t289, t292, 0)) else (some (0, 0, 3))) = some (r1, r2, r3) := by first | (rw [hji9] at H; exact H) | (simp only [hji9] at H ⊢; exact H)
        (try rw [hji9] at A4)
        have hji9_ : (t291 / 2 ^ min (ji7).toNat 8) = ji9 := hji9
        have hji9z : (ji7) ≤ 8 → (t291 / 2 ^ (ji7).toNat) = ji9 := shr_small hji9
        by_cases c10 : (ji9) = 0
        · rw [if_pos c10] at H
          have c10b0 : ((ji9) == 0) = true := beq_iff_eq.mpr c10
          have c10b1 : ((ji9) != 0) = false := bne_eq_false_iff_eq.mpr c10
          clear c10
          simp only [Option.some.injEq, Prod.mk.injEq] at H
          obtain ⟨rfl, rfl, rfl⟩ := H
          go_enter Tryd.func26, Tryd.ntmps26
          go_wp2_with (first | ((with_reducible refine gate_callee (f := 34) rfl ?_); refine goesL_ (some 18) rfl rfl Tryd.func34 (by kernel_rfl) rfl #[.slice A0 l0.length c0, .int .i64 a1, .int .i64 a2] rfl (by (try simp only [List.map_toArray, List.map_cons, List.map_nil]); first | done | rfl | (simp only [List.length_drop, List.length_take]; rfl)) ?_; (with_reducible refine (leb_read.calls _ _ l0 a1 a2 t289 t290 t291 t292 t293 _ ?side1 ?side2 A4.out).mono ?_); (case side1 => repeat (first | exact HR0.out | (with_reducible refine Kd.C_alloc ?_ _) | (with_reducible refine Kd.C_drewN ?_ _) | (with_reducible refine Kd.C_drew ?_))); (case side2 => exact HC0.out); rintro e w11 ⟨rfl, hb⟩; refine ⟨_, rfl, ?_⟩; have n0_ := Aside0.mk (below_step (by repeat (first | (with_reducible first | exact HB.out | apply below_alloc | apply pw_below_drewN | apply below_drew1) | exact HB.out)) hb); clear HB; have HB := n0_; clear n0_; (try clear hb); (try clear hb2); (try clear hk); (try clear hi)))
          go_ret3
          exact ⟨by first | rfl | (simp [errW_none, errW_some] <;> rfl) | (simp only [← hji7, ← hji9]; first | rfl | (simp [errW_none, errW_some] <;> rfl)) | (simp [*, errW_none, errW_some] <;> rfl), by repeat (first | (with_reducible first | exact HB.out | apply below_alloc | apply pw_below_drewN | apply below_drew1) | exact HB.out)⟩
        · rw [if_neg c10] at H
          have c10b0 : ((ji9) == 0) = false := beq_eq_false_iff_ne.mpr c10
          have c10b1 : ((ji9) != 0) = true := bne_iff_ne.mpr c10
          simp only [Option.some.injEq, Prod.mk.injEq] at H
          obtain ⟨rfl, rfl, rfl⟩ := H
          go_enter Tryd.func26, Tryd.ntmps26
          go_wp2_with (first | ((with_reducible refine gate_callee (f := 34) rfl ?_); refine goesL_ (some 18) rfl rfl Tryd.func34 (by kernel_rfl) rfl #[.slice A0 l0.length c0, .int .i64 a1, .int .i64 a2] rfl (by (try simp only [List.map_toArray, List.map_cons, List.map_nil]); first | done | rfl | (simp only [List.length_drop, List.length_take]; rfl)) ?_; (with_reducible refine (leb_read.calls _ _ l0 a1 a2 t289 t290 t291 t292 t293 _ ?side1 ?side2 A4.out).mono ?_); (case side1 => repeat (first | exact HR0.out | (with_reducible refine Kd.C_alloc ?_ _) | (with_reducible refine Kd.C_drewN ?_ _) | (with_reducible refine Kd.C_drew ?_))); (case side2 => exact HC0.out); rintro e w12 ⟨rfl, hb⟩; refine ⟨_, rfl, ?_⟩; have n0_ := Aside0.mk (below_step (by repeat (first | (with_reducible first | exact HB.out | apply below_alloc | apply pw_below_drewN | apply below_drew1) | exact HB.out)) hb); clear HB; have HB := n0_; clear n0_; (try clear hb); (try clear hb2); (try clear hk); (try clear hi)))
          go_ret3
          exact ⟨by first | rfl | (simp [errW_none, errW_some] <;> rfl) | (simp only [← hji7, ← hji9]; first | rfl | (simp [errW_none, errW_some] <;> rfl)) | (simp [*, errW_none, errW_some] <;> rfl), by repeat (first | (with_reducible first | exact HB.out | apply below_alloc | apply pw_below_drewN | apply below_drew1) | exact HB.out)⟩
      · rw [if_neg c8] at H
        exact absurd H (by simp)
    · rw [if_neg c6] at H
      have c6b0 : decide (a2 < t290) = false := decide_eq_false c6
      clear c6
      simp only [Option.some.injEq, Prod.mk.injEq] at H
      obtain ⟨rfl, rfl, rfl⟩ := H
      go_enter Tryd.func26, Tryd.ntmps26
      go_wp2_with (first | ((with_reducible refine gate_callee (f := 34) rfl ?_); refine goesL_ (some 18) rfl rfl Tryd.func34 (by kernel_rfl) rfl #[.slice A0 l0.length c0, .int .i64 a1, .int .i64 a2] rfl (by (try simp only [List.map_toArray, List.map_cons, List.map_nil]); first | done | rfl | (simp only [List.length_drop, List.length_take]; rfl)) ?_; (with_reducible refine (leb_read.calls _ _ l0 a1 a2 t289 t290 t291 t292 t293 _ ?side1 ?side2 A4.out).mono ?_); (case side1 => repeat (first | exact HR0.out | (with_reducible refine Kd.C_alloc ?_ _) | (with_reducible refine Kd.C_drewN ?_ _) | (with_reducible refine Kd.C_drew ?_))); (case side2 => exact HC0.out); rintro e w13 ⟨rfl, hb⟩; refine ⟨_, rfl, ?_⟩; have n0_ := Aside0.mk (below_step (by repeat (first | (with_reducible first | exact HB.out | apply below_alloc | apply pw_below_drewN | apply below_drew1) | exact HB.out)) hb); clear HB; have HB := n0_; clear n0_; (try clear hb); (try clear hb2); (try clear hk); (try clear hi)))
      go_ret3
      exact ⟨by first | rfl | (simp [errW_none, errW_some] <;> rfl) | (simp [*, errW_none, errW_some] <;> rfl), by repeat (first | (with_reducible first | exact HB.out | apply below_alloc | apply pw_below_drewN | apply below_drew1) | exact HB.out)⟩
  · rw [if_neg c5] at H
    have c5b0 : (t293 == 0) = false := beq_eq_false_iff_ne.mpr c5
    have c5b1 : (t293 != 0) = true := bne_iff_ne.mpr c5
    simp only [Option.some.injEq, Prod.mk.injEq] at H
    obtain ⟨rfl, rfl, rfl⟩ := H
    go_enter Tryd.func26, Tryd.ntmps26
    go_wp2_with (first | ((with_reducible refine gate_callee (f := 34) rfl ?_); refine goesL_ (some 18) rfl rfl Tryd.func34 (by kernel_rfl) rfl #[.slice A0 l0.length c0, .int .i64 a1, .int .i64 a2] rfl (by (try simp only [List.map_toArray, List.map_cons, List.map_nil]); first | done | rfl | (simp only [List.length_drop, List.length_take]; rfl)) ?_; (with_reducible refine (leb_read.calls _ _ l0 a1 a2 t289 t290 t291 t292 t293 _ ?side1 ?side2 A4.out).mono ?_); (case side1 => repeat (first | exact HR0.out | (with_reducible refine Kd.C_alloc ?_ _) | (with_reducible refine Kd.C_drewN ?_ _) | (with_reducible refine Kd.C_drew ?_))); (case side2 => exact HC0.out); rintro e w14 ⟨rfl, hb⟩; refine ⟨_, rfl, ?_⟩; have n0_ := Aside0.mk (below_step (by repeat (first | (with_reducible first | exact HB.out | apply below_alloc | apply pw_below_drewN | apply below_drew1) | exact HB.out)) hb); clear HB; have HB := n0_; clear n0_; (try clear hb); (try clear hb2); (try clear hk); (try clear hi)))
    go_ret3
    exact ⟨by first | rfl | (simp [errW_none, errW_some] <;> rfl) | (simp [*, errW_none, errW_some] <;> rfl), by repeat (first | (with_reducible first | exact HB.out | apply below_alloc | apply pw_below_drewN | apply below_drew1) | exact HB.out)⟩

end Go.Proofs.YtmbpimhfanafcaaDoor.G
