-- Made by gprint.py (mine) over the kit's print.py, out of the translation; parts of it typed by hand.
import Derived.Test.YtmbpimhfanafcaaDoorG0
import Derived.Test.YtmbpimhfanafcaaDoorG1
import Derived.Test.YtmbpimhfanafcaaDoorG2
import Derived.Test.YtmbpimhfanafcaaDoorG4
import Derived.Test.YtmbpimhfanafcaaDoorG5
import Derived.Test.YtmbpimhfanafcaaDoorG7
namespace Go.Proofs.YtmbpimhfanafcaaDoor.G
open Go.RowKit Go.Proofs.YtmbpimhfanafcaaDoorW.PrintWords Go.Proofs.YtmbpimhfanafcaaDoorW.PrintLast Go.Proofs.YtmbpimhfanafcaaDoorW.PrintMore
attribute [local go_sem] max2_int min2_int max_two min_two max_three min_three max_four min_four   -- for this text's walks alone
set_option linter.unusedVariables false
set_option linter.unusedSimpArgs false

/-! ### avocetref01_ReadU: function 29 -/
def avocetref01_ReadU.l0 : Nat → Int → List Int → Int → Int → Int → Option (Int × Int × Int)
  | 0, _, _, _, _, _ => none
  | k + 1, x2, x9, x10, x12, x13 => if x13 ≥ 0 then (if x13 ≥ x2 then (if 0 ≤ x13 then (if x13 < (x9.length : Int) then (if (rd x9 x13) = 0 then (avocetref01_ReadU.l0 k x2 x9 x10 (IntKind.u64.wrap ((IntKind.u64.wrap (x12 * 2)) + (IntKind.u64.wrap (rd x9 x13)))) (wrap64 (x13 - 1))) else (some (0, 0, 3))) else (none)) else (none)) else (if 0 ≤ x13 then (if x13 < (x9.length : Int) then (avocetref01_ReadU.l0 k x2 x9 x10 (IntKind.u64.wrap ((IntKind.u64.wrap (x12 * 2)) + (IntKind.u64.wrap (rd x9 x13)))) (wrap64 (x13 - 1))) else (none)) else (none))) else (some (x12, x10, 0))
def avocetref01_ReadU.f (k : Nat) (l0 : List Int) (a1 : Int) (a2 : Int) : Option (Int × Int × Int) := (avocetref01_digits.f k l0 a1 a2).bind fun bt373 => (if bt373.2.2 = 0 then (avocetref01_ReadU.l0 k a2 bt373.1 bt373.2.1 0 (wrap64 ((bt373.1.length : Int) - 1))) else (some (0, 0, bt373.2.2)))
theorem avocetref01_ReadU.mono_l : ∀ k, (∀ y0 y1 y2 y3 y4, LeO (avocetref01_ReadU.l0 k y0 y1 y2 y3 y4) (avocetref01_ReadU.l0 (k + 1) y0 y1 y2 y3 y4))
  | 0 => fun _ _ _ _ _ r h => by simp [avocetref01_ReadU.l0] at h
  | k + 1 => by
    have ih0 := avocetref01_ReadU.mono_l k
    · intro y0 y1 y2 y3 y4
      unfold avocetref01_ReadU.l0
      repeat' first
      | (with_reducible exact ih0 _ _ _ _ _)
      | (with_reducible exact avocetref01_digits.mono _ _ _ _)
      | (with_reducible exact LeO.refl _)
      | (with_reducible exact LeO.none _)
      | (with_reducible refine LeO.ite ?_ ?_)
      | (with_reducible refine LeO.bind ?_ (fun _ => ?_))
      | exact ih0 _ _ _ _ _
      | exact avocetref01_digits.mono _ _ _ _
      | exact LeO.none _
      | refine LeO.ite ?_ ?_
      | refine LeO.bind ?_ (fun _ => ?_)
theorem avocetref01_ReadU.mono : ∀ a0 a1 a2 k, LeO (avocetref01_ReadU.f k a0 a1 a2) (avocetref01_ReadU.f (k + 1) a0 a1 a2) := by
  intro a0 a1 a2 k
  have ih0 := avocetref01_ReadU.mono_l k
  unfold avocetref01_ReadU.f
  repeat' first
      | (with_reducible exact ih0 _ _ _ _ _)
      | (with_reducible exact avocetref01_digits.mono _ _ _ _)
      | (with_reducible exact LeO.refl _)
      | (with_reducible exact LeO.none _)
      | (with_reducible refine LeO.ite ?_ ?_)
      | (with_reducible refine LeO.bind ?_ (fun _ => ?_))
      | exact ih0 _ _ _ _ _
      | exact avocetref01_digits.mono _ _ _ _
      | exact LeO.none _
      | refine LeO.ite ?_ ?_
      | refine LeO.bind ?_ (fun _ => ?_)
set_option maxHeartbeats 8000000 in
set_option maxRecDepth 100000 in
theorem avocetref01_ReadU.calls (k : Nat) (A0 : Option Addr) (c0 : Nat) (l0 : List Int) (a1 : Int) (a2 : Int) (r1 : Int) (r2 : Int) (r3 : Int) (w : World) (hr0 : Kd.C (Kd.int .u8) w A0 l0.length l0) (hc0 : l0.length ≤ c0) (h : avocetref01_ReadU.f k l0 a1 a2 = some (r1, r2, r3)) :
    Calls Tryd.prog 29 #[.slice A0 l0.length c0, .int .i64 a1, .int .i64 a2] w fun e w' => e = .returned (.tuple #[.int .u64 r1, .int .i64 r2, .int .i64 r3]) ∧ Below w.heap.size w w' := by
  have HR0 := Aside0.mk hr0
  have HC0 := Aside0.mk hc0
  clear hr0 hc0
  have HB := Aside0.mk (Below.refl w.heap.size w)
  have H : ((avocetref01_digits.f k l0 a1 a2).bind fun bt373 => (if bt373.2.2 = 0 then (avocetref01_ReadU.l0 k a2 bt373.1 bt373.2.1 0 (wrap64 ((bt373.1.length : Int) - 1))) else (some (0, 0, bt373.2.2)))) = some (r1, r2, r3) := h
  clear h
  replace H := Option.bind_eq_some_iff.mp H
  obtain ⟨⟨t373, t374, t375⟩, A40, H⟩ := H
  replace H : (if t375 = 0 then (avocetref01_ReadU.l0 k a2 t373 t374 0 (wrap64 ((t373.length : Int) - 1))) else (some (0, 0, t375))) = some (r1, r2, r3) := H
  have A4 := Aside0.mk A40
  clear A40
  by_cases c5 : t375 = 0
  · rw [if_pos c5] at H
    have c5b0 : (t375 == 0) = true := beq_iff_eq.mpr c5
    have c5b1 : (t375 != 0) = false := bne_eq_false_iff_eq.mpr c5
    clear c5
    have H' := Aside0.mk H
    clear H
    go_enter Tryd.func29, Tryd.ntmps29
    go_wp2_with (first | ((with_reducible refine gate_callee (f := 35) rfl ?_); refine goesL_ (some 18) rfl rfl Tryd.func35 (by kernel_rfl) rfl #[.slice A0 l0.length c0, .int .i64 a1, .int .i64 a2] rfl (by (try simp only [List.map_toArray, List.map_cons, List.map_nil]); first | done | rfl | (simp only [List.length_drop, List.length_take]; rfl)) ?_; (with_reducible refine (avocetref01_digits.calls k _ _ l0 a1 a2 t373 t374 t375 _ ?side1 ?side2 A4.out).mono ?_); (case side1 => repeat (first | exact HR0.out | (with_reducible refine Kd.C_alloc ?_ _) | (with_reducible refine Kd.C_drewN ?_ _) | (with_reducible refine Kd.C_drew ?_))); (case side2 => exact HC0.out); rintro e w6 ⟨v376, rfl, ho0, hb⟩; refine ⟨_, rfl, ?_⟩; have n0_ := Aside0.mk (Kd.R_lower ho0 (below_size (by repeat (first | (with_reducible first | exact HB.out | apply below_alloc | apply pw_below_drewN | apply below_drew1) | exact HB.out)))); have n1_ := Aside0.mk (below_step (by repeat (first | (with_reducible first | exact HB.out | apply below_alloc | apply pw_below_drewN | apply below_drew1) | exact HB.out)) hb); clear HB; have HO377 := n0_; have HB := n1_; clear n0_ n1_; (try clear hb); (try clear hb2); (try clear hk); (try clear hi); (try clear ho0); obtain ⟨Ao7, co7, eo7⟩ := Kd.R_slice HO377.out; subst eo7))
    go_loopg [12, 13] k (fun kq v12 v13 w' => ∃ (x12_1 : Int) (x13_1 : Int), v12 = .int .u64 x12_1 ∧ v13 = .int .i64 x13_1 ∧ Aside0 (avocetref01_ReadU.l0 kq a2 t373 t374 x12_1 x13_1 = some (r1, r2, r3)) ∧ Aside0 (kq ≤ k) ∧ Aside0 (Kd.R (Kd.int .i64) 3 w' w.heap.size (fun _ => True) (.slice Ao7 t373.length co7) t373) ∧ Aside0 (Below w.heap.size w w'))
    case atStart => exact ⟨(0), (wrap64 ((t373.length : Int) - 1)), (by first | rfl | (simp; done) | (simp [*]; done)), (by first | rfl | (simp; done) | (simp [*]; done)), H', ⟨Nat.le_refl _⟩, ⟨by (with_reducible repeat (first | apply Kd.R_alloc | apply Kd.R_drewN | apply Kd.R_drew)); exact HO377.out⟩, ⟨by repeat (first | (with_reducible first | exact HB.out | apply below_alloc | apply pw_below_drewN | apply below_drew1) | exact HB.out)⟩⟩
    case round =>
      clear H'
      try clear c2
      try clear p2
      try clear c3
      try clear c5
      try clear c5b0
      try clear c5b1
      try clear p6
      obtain ⟨x12_1, x13_1, rfl, rfl, HA, HK1, HO_9, HB⟩ := hrel
      cases gk with
      | zero => exact absurd HA.out (by simp [avocetref01_ReadU.l0])
      | succ k1 =>
        have H := HA.out
        clear HA
        simp only [avocetref01_ReadU.l0] at H
        by_cases c8 : x13_1 ≥ 0
        · rw [if_pos c8] at H
          have c8b0 : decide (0 ≤ x13_1) = true := decide_eq_true c8
          clear c8
          by_cases c9 : x13_1 ≥ a2
          · rw [if_pos c9] at H
            have c9b0 : decide (a2 ≤ x13_1) = true := decide_eq_true c9
            clear c9
            by_cases c10 : 0 ≤ x13_1
            · rw [if_pos c10] at H
              have c10b0 : decide (0 ≤ x13_1) = true := decide_eq_true c10
              clear c10
              by_cases c11 : x13_1 < (t373.length : Int)
              · rw [if_pos c11] at H
                have c11b0 : decide (x13_1 < (t373.length : Int)) = true := decide_eq_true c11
                clear c11
                by_cases c12 : (rd t373 x13_1) = 0
                · rw [if_pos c12] at H
                  have c12b0 : ((rd t373 x13_1) == 0) = true := beq_iff_eq.mpr c12
                  have c12b1 : ((rd t373 x13_1) != 0) = false := bne_eq_false_iff_eq.mpr c12
                  clear c12
                  have H' := Aside0.mk H
                  clear H
                  have p378 : 0 ≤ (x13_1 : Int) := of_decide_eq_true (by first | (with_reducible assumption) | assumption)
                  have q378 : x13_1 < (t373.length : Int) := of_decide_eq_true (by first | (with_reducible assumption) | assumption)
                  obtain ⟨ad378, e378, hx378_0⟩ := Kd.at_int (Kd.R_reads' HO_9.out).2.2 x13_1 p378 q378
                  cases e378
                  replace p378 := eq_true p378
                  replace q378 := eq_true q378
                  have p379 : 0 ≤ (x13_1 : Int) := of_decide_eq_true (by first | (with_reducible assumption) | assumption)
                  have q379 : x13_1 < (t373.length : Int) := of_decide_eq_true (by first | (with_reducible assumption) | assumption)
                  obtain ⟨ad379, e379, hx379_0⟩ := Kd.at_int (Kd.R_reads' HO_9.out).2.2 x13_1 p379 q379
                  obtain rfl : ad378 = ad379 := (by injection e379)
                  replace p379 := eq_true p379
                  replace q379 := eq_true q379
                  go_wp2
                  go_roundg k1
                  case measure => have := HK1.out; omega
                  case rel => exact ⟨(IntKind.u64.wrap ((IntKind.u64.wrap (x12_1 * 2)) + (IntKind.u64.wrap (rd t373 x13_1)))), (wrap64 (x13_1 - 1)), (by first | rfl | (simp; done) | (simp [*]; done)), (by first | rfl | (simp; done) | (simp [*]; done)), H', ⟨by have := HK1.out; omega⟩, ⟨by (with_reducible repeat (first | apply Kd.R_alloc | apply Kd.R_drewN | apply Kd.R_drew)); exact HO_9.out⟩, ⟨by repeat (first | (with_reducible first | exact HB.out | apply below_alloc | apply pw_below_drewN | apply below_drew1) | exact HB.out)⟩⟩
                · rw [if_neg c12] at H
                  have c12b0 : ((rd t373 x13_1) == 0) = false := beq_eq_false_iff_ne.mpr c12
                  have c12b1 : ((rd t373 x13_1) != 0) = true := bne_iff_ne.mpr c12
                  simp only [Option.some.injEq, Prod.mk.injEq] at H
                  obtain ⟨rfl, rfl, rfl⟩ := H
                  have p378 : 0 ≤ (x13_1 : Int) := of_decide_eq_true (by first | (with_reducible assumption) | assumption)
                  have q378 : x13_1 < (t373.length : Int) := of_decide_eq_true (by first | (with_reducible assumption) | assumption)
                  obtain ⟨ad378, e378, hx378_0⟩ := Kd.at_int (Kd.R_reads' HO_9.out).2.2 x13_1 p378 q378
                  cases e378
                  replace p378 := eq_true p378
                  replace q378 := eq_true q378
                  go_wp2
                  go_ret3
                  exact ⟨by first | rfl | (simp [errW_none, errW_some] <;> rfl) | (simp [*, errW_none, errW_some] <;> rfl), by repeat (first | (with_reducible first | exact HB.out | apply below_alloc | apply pw_below_drewN | apply below_drew1) | exact HB.out)⟩
              · rw [if_neg c11] at H
                exact absurd H (by simp)
            · rw [if_neg c10] at H
              exact absurd H (by simp)
          · rw [if_neg c9] at H
            have c9b0 : decide (a2 ≤ x13_1) = false := decide_eq_false c9
            clear c9
            by_cases c13 : 0 ≤ x13_1
            · rw [if_pos c13] at H
              have c13b0 : decide (0 ≤ x13_1) = true := decide_eq_true c13
              clear c13
              by_cases c14 : x13_1 < (t373.length : Int)
              · rw [if_pos c14] at H
                have c14b0 : decide (x13_1 < (t373.length : Int)) = true := decide_eq_true c14
                clear c14
                have H' := Aside0.mk H
                clear H
                have p380 : 0 ≤ (x13_1 : Int) := of_decide_eq_true (by first | (with_reducible assumption) | assumption)
                have q380 : x13_1 < (t373.length : Int) := of_decide_eq_true (by first | (with_reducible assumption) | assumption)
                obtain ⟨ad380, e380, hx380_0⟩ := Kd.at_int (Kd.R_reads' HO_9.out).2.2 x13_1 p380 q380
                cases e380
                replace p380 := eq_true p380
                replace q380 := eq_true q380
                go_wp2
                go_roundg k1
                case measure => have := HK1.out; omega
                case rel => exact ⟨(IntKind.u64.wrap ((IntKind.u64.wrap (x12_1 * 2)) + (IntKind.u64.wrap (rd t373 x13_1)))), (wrap64 (x13_1 - 1)), (by first | rfl | (simp; done) | (simp [*]; done)), (by first | rfl | (simp; done) | (simp [*]; done)), H', ⟨by have := HK1.out; omega⟩, ⟨by (with_reducible repeat (first | apply Kd.R_alloc | apply Kd.R_drewN | apply Kd.R_drew)); exact HO_9.out⟩, ⟨by repeat (first | (with_reducible first | exact HB.out | apply below_alloc | apply pw_below_drewN | apply below_drew1) | exact HB.out)⟩⟩
              · rw [if_neg c14] at H
                exact absurd H (by simp)
            · rw [if_neg c13] at H
              exact absurd H (by simp)
        · rw [if_neg c8] at H
          have c8b0 : decide (0 ≤ x13_1) = false := decide_eq_false c8
          clear c8
          simp only [Option.some.injEq, Prod.mk.injEq] at H
          obtain ⟨rfl, rfl, rfl⟩ := H
          go_wp2
          go_ret3
          exact ⟨by first | rfl | (simp [errW_none, errW_some] <;> rfl) | (simp [*, errW_none, errW_some] <;> rfl), by repeat (first | (with_reducible first | exact HB.out | apply below_alloc | apply pw_below_drewN | apply below_drew1) | exact HB.out)⟩
  · rw [if_neg c5] at H
    have c5b0 : (t375 == 0) = false := beq_eq_false_iff_ne.mpr c5
    have c5b1 : (t375 != 0) = true := bne_iff_ne.mpr c5
    simp only [Option.some.injEq, Prod.mk.injEq] at H
    obtain ⟨rfl, rfl, rfl⟩ := H
    go_enter Tryd.func29, Tryd.ntmps29
    go_wp2_with (first | ((with_reducible refine gate_callee (f := 35) rfl ?_); refine goesL_ (some 18) rfl rfl Tryd.func35 (by kernel_rfl) rfl #[.slice A0 l0.length c0, .int .i64 a1, .int .i64 a2] rfl (by (try simp only [List.map_toArray, List.map_cons, List.map_nil]); first | done | rfl | (simp only [List.length_drop, List.length_take]; rfl)) ?_; (with_reducible refine (avocetref01_digits.calls k _ _ l0 a1 a2 t373 t374 t375 _ ?side1 ?side2 A4.out).mono ?_); (case side1 => repeat (first | exact HR0.out | (with_reducible refine Kd.C_alloc ?_ _) | (with_reducible refine Kd.C_drewN ?_ _) | (with_reducible refine Kd.C_drew ?_))); (case side2 => exact HC0.out); rintro e w15 ⟨v376, rfl, ho0, hb⟩; refine ⟨_, rfl, ?_⟩; have n0_ := Aside0.mk (Kd.R_lower ho0 (below_size (by repeat (first | (with_reducible first | exact HB.out | apply below_alloc | apply pw_below_drewN | apply below_drew1) | exact HB.out)))); have n1_ := Aside0.mk (below_step (by repeat (first | (with_reducible first | exact HB.out | apply below_alloc | apply pw_below_drewN | apply below_drew1) | exact HB.out)) hb); clear HB; have HO377 := n0_; have HB := n1_; clear n0_ n1_; (try clear hb); (try clear hb2); (try clear hk); (try clear hi); (try clear ho0)))
    go_ret3
    exact ⟨by first | rfl | (simp [errW_none, errW_some] <;> rfl) | (simp [*, errW_none, errW_some] <;> rfl), by repeat (first | (with_reducible first | exact HB.out | apply below_alloc | apply pw_below_drewN | apply below_drew1) | exact HB.out)⟩

/-! ### avocetref03_Name: function 18 -/
def avocetref03_Name.f (k : Nat) (l0 : List Int) (a1 : Int) : Option (ByteArray × Int × Int) := (avocetref01_ReadU.f k l0 a1 32).bind fun bt381 => (if bt381.2.2 = 0 then (if bt381.1 > (IntKind.u64.wrap (wrap64 ((l0.length : Int) - bt381.2.1))) then (some ((⟨#[]⟩ : ByteArray), 0, 2)) else (if bt381.1 > 64 then (some ((⟨#[]⟩ : ByteArray), 0, 4)) else (if 0 ≤ bt381.2.1 then (if bt381.2.1 ≤ (wrap64 (bt381.2.1 + (wrap64 (bt381.1)))) then (if (wrap64 (bt381.2.1 + (wrap64 (bt381.1)))) ≤ (l0.length : Int) then ((avocetref03_Valid.f k ((l0.take ((wrap64 (bt381.2.1 + (wrap64 (bt381.1)))) : Int).toNat).drop (bt381.2.1 : Int).toNat)).bind fun t385 => (if t385 = true then (some (strOfNums ((l0.take ((wrap64 (bt381.2.1 + (wrap64 (bt381.1)))) : Int).toNat).drop (bt381.2.1 : Int).toNat), wrap64 (bt381.2.1 + (wrap64 (bt381.1))), 0)) else (some ((⟨#[]⟩ : ByteArray), 0, 3)))) else (none)) else (none)) else (none)))) else (some ((⟨#[]⟩ : ByteArray), 0, bt381.2.2)))
theorem avocetref03_Name.mono : ∀ a0 a1 k, LeO (avocetref03_Name.f k a0 a1) (avocetref03_Name.f (k + 1) a0 a1) := by
  intro a0 a1 k
  unfold avocetref03_Name.f
  repeat' first
      | (with_reducible exact avocetref01_ReadU.mono _ _ _ _)
      | (with_reducible exact avocetref03_Valid.mono _ _)
      | (with_reducible exact LeO.refl _)
      | (with_reducible exact LeO.none _)
      | (with_reducible refine LeO.ite ?_ ?_)
      | (with_reducible refine LeO.bind ?_ (fun _ => ?_))
      | exact avocetref01_ReadU.mono _ _ _ _
      | exact avocetref03_Valid.mono _ _
      | exact LeO.none _
      | refine LeO.ite ?_ ?_
      | refine LeO.bind ?_ (fun _ => ?_)
set_option maxHeartbeats 8000000 in
set_option maxRecDepth 100000 in
theorem avocetref03_Name.calls (k : Nat) (A0 : Option Addr) (c0 : Nat) (l0 : List Int) (a1 : Int) (r1 : ByteArray) (r2 : Int) (r3 : Int) (w : World) (hr0 : Kd.C (Kd.int .u8) w A0 l0.length l0) (hc0 : l0.length ≤ c0) (h : avocetref03_Name.f k l0 a1 = some (r1, r2, r3)) :
    Calls Tryd.prog 18 #[.slice A0 l0.length c0, .int .i64 a1] w fun e w' => e = .returned (.tuple #[.string r1, .int .i64 r2, .int .i64 r3]) ∧ Below w.heap.size w w' := by
  have HR0 := Aside0.mk hr0
  have HC0 := Aside0.mk hc0
  clear hr0 hc0
  have HB := Aside0.mk (Below.refl w.heap.size w)
  have H : ((avocetref01_ReadU.f k l0 a1 32).bind fun bt381 => (if bt381.2.2 = 0 then (if bt381.1 > (IntKind.u64.wrap (wrap64 ((l0.length : Int) - bt381.2.1))) then (some ((⟨#[]⟩ : ByteArray), 0, 2)) else (if bt381.1 > 64 then (some ((⟨#[]⟩ : ByteArray), 0, 4)) else (if 0 ≤ bt381.2.1 then (if bt381.2.1 ≤ (wrap64 (bt381.2.1 + (wrap64 (bt381.1)))) then (if (wrap64 (bt381.2.1 + (wrap64 (bt381.1)))) ≤ (l0.length : Int) then ((avocetref03_Valid.f k ((l0.take ((wrap64 (bt381.2.1 + (wrap64 (bt381.1)))) : Int).toNat).drop (bt381.2.1 : Int).toNat)).bind fun t385 => (if t385 = true then (some (strOfNums ((l0.take ((wrap64 (bt381.2.1 + (wrap64 (bt381.1)))) : Int).toNat).drop (bt381.2.1 : Int).toNat), wrap64 (bt381.2.1 + (wrap64 (bt381.1))), 0)) else (some ((⟨#[]⟩ : ByteArray), 0, 3)))) else (none)) else (none)) else (none)))) else (some ((⟨#[]⟩ : ByteArray), 0, bt381.2.2)))) = some (r1, r2, r3) := h
  clear h
  replace H := Option.bind_eq_some_iff.mp H
  obtain ⟨⟨t381, t382, t383⟩, A30, H⟩ := H
  replace H : (if t383 = 0 then (if t381 > (IntKind.u64.wrap (wrap64 ((l0.length : Int) - t382))) then (some ((⟨#[]⟩ : ByteArray), 0, 2)) else (if t381 > 64 then (some ((⟨#[]⟩ : ByteArray), 0, 4)) else (if 0 ≤ t382 then (if t382 ≤ (wrap64 (t382 + (wrap64 (t381)))) then (if (wrap64 (t382 + (wrap64 (t381)))) ≤ (l0.length : Int) then ((avocetref03_Valid.f k ((l0.take ((wrap64 (t382 + (wrap64 (t381)))) : Int).toNat).drop (t382 : Int).toNat)).bind fun t385 => (if t385 = true then (some (strOfNums ((l0.take ((wrap64 (t382 + (wrap64 (t381)))) : Int).toNat).drop (t382 : Int).toNat), wrap64 (t382 + (wrap64 (t381))), 0)) else (some ((⟨#[]⟩ : ByteArray), 0, 3)))) else (none)) else (none)) else (none)))) else (some ((⟨#[]⟩ : ByteArray), 0, t383))) = some (r1, r2, r3) := H
  have A3 := Aside0.mk A30
  clear A30
  by_cases c4 : t383 = 0
  · rw [if_pos c4] at H
    have c4b0 : (t383 == 0) = true := beq_iff_eq.mpr c4
    have c4b1 : (t383 != 0) = false := bne_eq_false_iff_eq.mpr c4
    clear c4
    by_cases c5 : t381 > (IntKind.u64.wrap (wrap64 ((l0.length : Int) - t382)))
    · rw [if_pos c5] at H
      have c5b0 : decide ((IntKind.u64.wrap (wrap64 ((l0.length : Int) - t382))) < t381) = true := decide_eq_true c5
      clear c5
      simp only [Option.some.injEq, Prod.mk.injEq] at H
      obtain ⟨rfl, rfl, rfl⟩ := H
      go_enter Tryd.func18, Tryd.ntmps18
      go_wp2_with (first | ((with_reducible refine gate_callee (f := 29) rfl ?_); refine goesL_ (some 14) rfl rfl Tryd.func29 (by kernel_rfl) rfl #[.slice A0 l0.length c0, .int .i64 a1, .int .i64 32] rfl (by (try simp only [List.map_toArray, List.map_cons, List.map_nil]); first | done | rfl | (simp only [List.length_drop, List.length_take]; rfl)) ?_; (with_reducible refine (avocetref01_ReadU.calls k _ _ l0 a1 32 t381 t382 t383 _ ?side1 ?side2 A3.out).mono ?_); (case side1 => repeat (first | exact HR0.out | (with_reducible refine Kd.C_alloc ?_ _) | (with_reducible refine Kd.C_drewN ?_ _) | (with_reducible refine Kd.C_drew ?_))); (case side2 => exact HC0.out); rintro e w6 ⟨rfl, hb⟩; refine ⟨_, rfl, ?_⟩; have n0_ := Aside0.mk (below_step (by repeat (first | (with_reducible first | exact HB.out | apply below_alloc | apply pw_below_drewN | apply below_drew1) | exact HB.out)) hb); clear HB; have HB := n0_; clear n0_; (try clear hb); (try clear hb2); (try clear hk); (try clear hi)))
      go_ret3
      exact ⟨by first | rfl | (simp [errW_none, errW_some] <;> rfl) | (simp [*, errW_none, errW_some] <;> rfl), by repeat (first | (with_reducible first | exact HB.out | apply below_alloc | apply pw_below_drewN | apply below_drew1) | exact HB.out)⟩
    · rw [if_neg c5] at H
      have c5b0 : decide ((IntKind.u64.wrap (wrap64 ((l0.length : Int) - t382))) < t381) = false := decide_eq_false c5
      clear c5
      by_cases c7 : t381 > 64
      · rw [if_pos c7] at H
        have c7b0 : decide (64 < t381) = true := decide_eq_true c7
        clear c7
        simp only [Option.some.injEq, Prod.mk.injEq] at H
        obtain ⟨rfl, rfl, rfl⟩ := H
        go_enter Tryd.func18, Tryd.ntmps18
        go_wp2_with (first | ((with_reducible refine gate_callee (f := 29) rfl ?_); refine goesL_ (some 14) rfl rfl Tryd.func29 (by kernel_rfl) rfl #[.slice A0 l0.length c0, .int .i64 a1, .int .i64 32] rfl (by (try simp only [List.map_toArray, List.map_cons, List.map_nil]); first | done | rfl | (simp only [List.length_drop, List.length_take]; rfl)) ?_; (with_reducible refine (avocetref01_ReadU.calls k _ _ l0 a1 32 t381 t382 t383 _ ?side1 ?side2 A3.out).mono ?_); (case side1 => repeat (first | exact HR0.out | (with_reducible refine Kd.C_alloc ?_ _) | (with_reducible refine Kd.C_drewN ?_ _) | (with_reducible refine Kd.C_drew ?_))); (case side2 => exact HC0.out); rintro e w8 ⟨rfl, hb⟩; refine ⟨_, rfl, ?_⟩; have n0_ := Aside0.mk (below_step (by repeat (first | (with_reducible first | exact HB.out | apply below_alloc | apply pw_below_drewN | apply below_drew1) | exact HB.out)) hb); clear HB; have HB := n0_; clear n0_; (try clear hb); (try clear hb2); (try clear hk); (try clear hi)))
        go_ret3
        exact ⟨by first | rfl | (simp [errW_none, errW_some] <;> rfl) | (simp [*, errW_none, errW_some] <;> rfl), by repeat (first | (with_reducible first | exact HB.out | apply below_alloc | apply pw_below_drewN | apply below_drew1) | exact HB.out)⟩
      · rw [if_neg c7] at H
        have c7b0 : decide (64 < t381) = false := decide_eq_false c7
        clear c7
        by_cases c9 : 0 ≤ t382
        · rw [if_pos c9] at H
          have c9b0 := eq_true c9
          have c9b1 : decide (0 ≤ t382) = true := decide_eq_true c9
          clear c9
          by_cases c10 : t382 ≤ (wrap64 (t382 + (wrap64 (t381))))
          · rw [if_pos c10] at H
            have c10b0 := eq_true c10
            have c10b1 : decide (t382 ≤ (wrap64 (t382 + (wrap64 (t381))))) = true := decide_eq_true c10
            by_cases c11 : (wrap64 (t382 + (wrap64 (t381)))) ≤ (l0.length : Int)
            · rw [if_pos c11] at H
              have c11b0 := eq_true c11
              have c11b1 : decide ((wrap64 (t382 + (wrap64 (t381)))) ≤ (l0.length : Int)) = true := decide_eq_true c11
              replace H := Option.bind_eq_some_iff.mp H
              obtain ⟨t385, A120, H⟩ := H
              replace H : (if t385 = true then (some (strOfNums ((l0.take ((wrap64 (t382 + (wrap64 (t381)))) : Int).toNat).drop (t382 : Int).toNat), wrap64 (t382 + (wrap64 (t381))), 0)) else (some ((⟨#[]⟩ : ByteArray), 0, 3))) = some (r1, r2, r3) := H
              have A12 := Aside0.mk A120
              clear A120
              by_cases c13 : t385 = true
              · subst c13
                have H1 : (some (strOfNums ((l0.take ((wrap64 (t382 + (wrap64 (t381)))) : Int).toNat).drop (t382 : Int).toNat), wrap64 (t382 + (wrap64 (t381))), 0)) = some (r1, r2, r3) := by rw [if_pos rfl] at H; exact H
                clear H
                have H := H1
                clear H1
                simp only [Option.some.injEq, Prod.mk.injEq] at H
                obtain ⟨rfl, rfl, rfl⟩ := H
                go_enter Tryd.func18, Tryd.ntmps18
                go_wp2_with (first | ((with_reducible refine gate_callee (f := 29) rfl ?_); refine goesL_ (some 14) rfl rfl Tryd.func29 (by kernel_rfl) rfl #[.slice A0 l0.length c0, .int .i64 a1, .int .i64 32] rfl (by (try simp only [List.map_toArray, List.map_cons, List.map_nil]); first | done | rfl | (simp only [List.length_drop, List.length_take]; rfl)) ?_; (with_reducible refine (avocetref01_ReadU.calls k _ _ l0 a1 32 t381 t382 t383 _ ?side1 ?side2 A3.out).mono ?_); (case side1 => repeat (first | exact HR0.out | (with_reducible refine Kd.C_alloc ?_ _) | (with_reducible refine Kd.C_drewN ?_ _) | (with_reducible refine Kd.C_drew ?_))); (case side2 => exact HC0.out); rintro e w14 ⟨rfl, hb⟩; refine ⟨_, rfl, ?_⟩; have n0_ := Aside0.mk (below_step (by repeat (first | (with_reducible first | exact HB.out | apply below_alloc | apply pw_below_drewN | apply below_drew1) | exact HB.out)) hb); clear HB; have HB := n0_; clear n0_; (try clear hb); (try clear hb2); (try clear hk); (try clear hi); obtain ⟨i015, hi015, _, hsz15, _⟩ := info_parts info5; obtain ⟨A15, hcut15, hA15, hC15⟩ := print_mid_of (P := Tryd.prog) (Value.int .u8) 0 22 5 .i64 .i64 Tryd.underlying22 hi015 hsz15 A0 c0 l0 t382 (wrap64 (t382 + (wrap64 (t381)))) (of_decide_eq_true (by first | (with_reducible assumption) | assumption)) (by first | omega | exact of_decide_eq_true (by first | (with_reducible assumption) | assumption)) (of_decide_eq_true (by first | (with_reducible assumption) | assumption)) HC0.out; have HR384 := Aside0.mk (Kd.C_of_reads (h1 := fun _ => rfl) (hA15 _ (Kd.reads_of_C HR0.out))); have HC384 := Aside0.mk hC15; clear hA15 hC15 hi015 hsz15) | ((with_reducible refine gate_callee (f := 20) rfl ?_); refine goesL_ (some 38) rfl rfl Tryd.func20 (by kernel_rfl) rfl #[.slice A15 ((l0.take ((wrap64 (t382 + (wrap64 (t381)))) : Int).toNat).drop (t382 : Int).toNat).length (c0 - t382.toNat)] rfl (by (try simp only [List.map_toArray, List.map_cons, List.map_nil]); first | done | (rw [show ((l0.take ((wrap64 (t382 + (wrap64 (t381)))) : Int).toNat).drop (t382 : Int).toNat).length = ((wrap64 (t382 + (wrap64 (t381)))).toNat - t382.toNat) from (by rw [List.length_drop, List.length_take]; have h_ : ((wrap64 (t382 + (wrap64 (t381)))) : Int) ≤ (l0.length : Int) := of_decide_eq_true (by first | (with_reducible assumption) | assumption); omega)] <;> rfl) | rfl | (simp only [List.length_drop, List.length_take]; rfl)) ?_; (with_reducible refine (avocetref03_Valid.calls k _ _ ((l0.take ((wrap64 (t382 + (wrap64 (t381)))) : Int).toNat).drop (t382 : Int).toNat) true _ ?side1 ?side2 A12.out).mono ?_); (case side1 => repeat (first | exact (Kd.C_below HR384.out HB.out) | (with_reducible refine Kd.C_alloc ?_ _) | (with_reducible refine Kd.C_drewN ?_ _) | (with_reducible refine Kd.C_drew ?_))); (case side2 => exact HC384.out); rintro e w16 ⟨rfl, hb⟩; refine ⟨_, rfl, ?_⟩; have n0_ := Aside0.mk (below_step (by repeat (first | (with_reducible first | exact HB.out | apply below_alloc | apply pw_below_drewN | apply below_drew1) | exact HB.out)) hb); clear HB; have HB := n0_; clear n0_; (try clear hb); (try clear hb2); (try clear hk); (try clear hi); have hcv17 := Kd.C_string (P := Tryd.prog) (A := A15) (c := (c0 - t382.toNat)) Tryd.underlying22 Tryd.underlying5 Tryd.underlying9 (Kd.C_below HR384.out HB.out); (try rw [show ((l0.take ((wrap64 (t382 + (wrap64 (t381)))) : Int).toNat).drop (t382 : Int).toNat).length = ((wrap64 (t382 + (wrap64 (t381)))).toNat - t382.toNat) from (by rw [List.length_drop, List.length_take]; have h_ : ((wrap64 (t382 + (wrap64 (t381)))) : Int) ≤ (l0.length : Int) := of_decide_eq_true (by first | (with_reducible assumption) | assumption); omega)] at hcv17)))
                go_ret3
                exact ⟨by first | rfl | (simp [errW_none, errW_some] <;> rfl) | (simp [*, errW_none, errW_some] <;> rfl), by repeat (first | (with_reducible first | exact HB.out | apply below_alloc | apply pw_below_drewN | apply below_drew1) | exact HB.out)⟩
              · replace c13 := Bool.eq_false_iff.mpr c13
                subst c13
                have H1 : (some ((⟨#[]⟩ : ByteArray), 0, 3)) = some (r1, r2, r3) := by rw [if_neg (show ¬ (false = true) by decide)] at H; exact H
                clear H
                have H := H1
                clear H1
                simp only [Option.some.injEq, Prod.mk.injEq] at H
                obtain ⟨rfl, rfl, rfl⟩ := H
                go_enter Tryd.func18, Tryd.ntmps18
                go_wp2_with (first | ((with_reducible refine gate_callee (f := 29) rfl ?_); refine goesL_ (some 14) rfl rfl Tryd.func29 (by kernel_rfl) rfl #[.slice A0 l0.length c0, .int .i64 a1, .int .i64 32] rfl (by (try simp only [List.map_toArray, List.map_cons, List.map_nil]); first | done | rfl | (simp only [List.length_drop, List.length_take]; rfl)) ?_; (with_reducible refine (avocetref01_ReadU.calls k _ _ l0 a1 32 t381 t382 t383 _ ?side1 ?side2 A3.out).mono ?_); (case side1 => repeat (first | exact HR0.out | (with_reducible refine Kd.C_alloc ?_ _) | (with_reducible refine Kd.C_drewN ?_ _) | (with_reducible refine Kd.C_drew ?_))); (case side2 => exact HC0.out); rintro e w18 ⟨rfl, hb⟩; refine ⟨_, rfl, ?_⟩; have n0_ := Aside0.mk (below_step (by repeat (first | (with_reducible first | exact HB.out | apply below_alloc | apply pw_below_drewN | apply below_drew1) | exact HB.out)) hb); clear HB; have HB := n0_; clear n0_; (try clear hb); (try clear hb2); (try clear hk); (try clear hi); obtain ⟨i019, hi019, _, hsz19, _⟩ := info_parts info5; obtain ⟨A19, hcut19, hA19, hC19⟩ := print_mid_of (P := Tryd.prog) (Value.int .u8) 0 22 5 .i64 .i64 Tryd.underlying22 hi019 hsz19 A0 c0 l0 t382 (wrap64 (t382 + (wrap64 (t381)))) (of_decide_eq_true (by first | (with_reducible assumption) | assumption)) (by first | omega | exact of_decide_eq_true (by first | (with_reducible assumption) | assumption)) (of_decide_eq_true (by first | (with_reducible assumption) | assumption)) HC0.out; have HR384 := Aside0.mk (Kd.C_of_reads (h1 := fun _ => rfl) (hA19 _ (Kd.reads_of_C HR0.out))); have HC384 := Aside0.mk hC19; clear hA19 hC19 hi019 hsz19) | ((with_reducible refine gate_callee (f := 20) rfl ?_); refine goesL_ (some 38) rfl rfl Tryd.func20 (by kernel_rfl) rfl #[.slice A19 ((l0.take ((wrap64 (t382 + (wrap64 (t381)))) : Int).toNat).drop (t382 : Int).toNat).length (c0 - t382.toNat)] rfl (by (try simp only [List.map_toArray, List.map_cons, List.map_nil]); first | done | (rw [show ((l0.take ((wrap64 (t382 + (wrap64 (t381)))) : Int).toNat).drop (t382 : Int).toNat).length = ((wrap64 (t382 + (wrap64 (t381)))).toNat - t382.toNat) from (by rw [List.length_drop, List.length_take]; have h_ : ((wrap64 (t382 + (wrap64 (t381)))) : Int) ≤ (l0.length : Int) := of_decide_eq_true (by first | (with_reducible assumption) | assumption); omega)] <;> rfl) | rfl | (simp only [List.length_drop, List.length_take]; rfl)) ?_; (with_reducible refine (avocetref03_Valid.calls k _ _ ((l0.take ((wrap64 (t382 + (wrap64 (t381)))) : Int).toNat).drop (t382 : Int).toNat) false _ ?side1 ?side2 A12.out).mono ?_); (case side1 => repeat (first | exact (Kd.C_below HR384.out HB.out) | (with_reducible refine Kd.C_alloc ?_ _) | (with_reducible refine Kd.C_drewN ?_ _) | (with_reducible refine Kd.C_drew ?_))); (case side2 => exact HC384.out); rintro e w20 ⟨rfl, hb⟩; refine ⟨_, rfl, ?_⟩; have n0_ := Aside0.mk (below_step (by repeat (first | (with_reducible first | exact HB.out | apply below_alloc | apply pw_below_drewN | apply below_drew1) | exact HB.out)) hb); clear HB; have HB := n0_; clear n0_; (try clear hb); (try clear hb2); (try clear hk); (try clear hi)))
                go_ret3
                exact ⟨by first | rfl | (simp [errW_none, errW_some] <;> rfl) | (simp [*, errW_none, errW_some] <;> rfl), by repeat (first | (with_reducible first | exact HB.out | apply below_alloc | apply pw_below_drewN | apply below_drew1) | exact HB.out)⟩
            · rw [if_neg c11] at H
              exact absurd H (by simp)
          · rw [if_neg c10] at H
            exact absurd H (by simp)
        · rw [if_neg c9] at H
          exact absurd H (by simp)
  · rw [if_neg c4] at H
    have c4b0 : (t383 == 0) = false := beq_eq_false_iff_ne.mpr c4
    have c4b1 : (t383 != 0) = true := bne_iff_ne.mpr c4
    simp only [Option.some.injEq, Prod.mk.injEq] at H
    obtain ⟨rfl, rfl, rfl⟩ := H
    go_enter Tryd.func18, Tryd.ntmps18
    go_wp2_with (first | ((with_reducible refine gate_callee (f := 29) rfl ?_); refine goesL_ (some 14) rfl rfl Tryd.func29 (by kernel_rfl) rfl #[.slice A0 l0.length c0, .int .i64 a1, .int .i64 32] rfl (by (try simp only [List.map_toArray, List.map_cons, List.map_nil]); first | done | rfl | (simp only [List.length_drop, List.length_take]; rfl)) ?_; (with_reducible refine (avocetref01_ReadU.calls k _ _ l0 a1 32 t381 t382 t383 _ ?side1 ?side2 A3.out).mono ?_); (case side1 => repeat (first | exact HR0.out | (with_reducible refine Kd.C_alloc ?_ _) | (with_reducible refine Kd.C_drewN ?_ _) | (with_reducible refine Kd.C_drew ?_))); (case side2 => exact HC0.out); rintro e w21 ⟨rfl, hb⟩; refine ⟨_, rfl, ?_⟩; have n0_ := Aside0.mk (below_step (by repeat (first | (with_reducible first | exact HB.out | apply below_alloc | apply pw_below_drewN | apply below_drew1) | exact HB.out)) hb); clear HB; have HB := n0_; clear n0_; (try clear hb); (try clear hb2); (try clear hk); (try clear hi)))
    go_ret3
    exact ⟨by first | rfl | (simp [errW_none, errW_some] <;> rfl) | (simp [*, errW_none, errW_some] <;> rfl), by repeat (first | (with_reducible first | exact HB.out | apply below_alloc | apply pw_below_drewN | apply below_drew1) | exact HB.out)⟩

/-! ### avocetref01_U: function 30 -/
def avocetref01_U.l0 : Nat → Int → List Int → Option (List Int)
  | 0, _, _ => none
  | k + 1, x1, x5 => if x1 ≥ 128 then (if x5.length < 140737488355328 then (avocetref01_U.l0 k (IntKind.u64.wrap (Int.tdiv x1 128)) (x5 ++ [(IntKind.u64.wrap (128 + (Int.tmod x1 128))) % 256])) else (none)) else (if x5.length < 140737488355328 then (some (x5 ++ [(x1) % 256])) else (none))
def avocetref01_U.f (k : Nat) (l0 : List Int) (a1 : Int) : Option (List Int) := (some (([] : List Int) : List Int)).bind fun y386 => (if y386.length + l0.length < 140737488355328 then (avocetref01_U.l0 k a1 (y386 ++ l0)) else (none))
theorem avocetref01_U.mono_l : ∀ k, (∀ y0 y1, LeO (avocetref01_U.l0 k y0 y1) (avocetref01_U.l0 (k + 1) y0 y1))
  | 0 => fun _ _ r h => by simp [avocetref01_U.l0] at h
  | k + 1 => by
    have ih0 := avocetref01_U.mono_l k
    · intro y0 y1
      unfold avocetref01_U.l0
      repeat' first
      | (with_reducible exact ih0 _ _)
      | (with_reducible exact LeO.refl _)
      | (with_reducible exact LeO.none _)
      | (with_reducible refine LeO.ite ?_ ?_)
      | (with_reducible refine LeO.bind ?_ (fun _ => ?_))
      | exact ih0 _ _
      | exact LeO.none _
      | refine LeO.ite ?_ ?_
      | refine LeO.bind ?_ (fun _ => ?_)
theorem avocetref01_U.mono : ∀ a0 a1 k, LeO (avocetref01_U.f k a0 a1) (avocetref01_U.f (k + 1) a0 a1) := by
  intro a0 a1 k
  have ih0 := avocetref01_U.mono_l k
  unfold avocetref01_U.f
  repeat' first
      | (with_reducible exact ih0 _ _)
      | (with_reducible exact LeO.refl _)
      | (with_reducible exact LeO.none _)
      | (with_reducible refine LeO.ite ?_ ?_)
      | (with_reducible refine LeO.bind ?_ (fun _ => ?_))
      | exact ih0 _ _
      | exact LeO.none _
      | refine LeO.ite ?_ ?_
      | refine LeO.bind ?_ (fun _ => ?_)
set_option maxHeartbeats 8000000 in
set_option maxRecDepth 100000 in
theorem avocetref01_U.calls (k : Nat) (A0 : Option Addr) (c0 : Nat) (l0 : List Int) (a1 : Int) (r : List Int) (w : World) (hr0 : Kd.C (Kd.int .u8) w A0 l0.length l0) (hc0 : l0.length ≤ c0) (h : avocetref01_U.f k l0 a1 = some r) :
    Calls Tryd.prog 30 #[.slice A0 l0.length c0, .int .u64 a1] w fun e w' => ∃ v0_ : Value, e = .returned (v0_) ∧ Kd.R (Kd.int .u8) 5 w' w.heap.size (fun _ => True) v0_ r ∧ Below w.heap.size w w' := by
  have HR0 := Aside0.mk hr0
  have HC0 := Aside0.mk hc0
  clear hr0 hc0
  have HB := Aside0.mk (Below.refl w.heap.size w)
  have H : ((some (([] : List Int) : List Int)).bind fun y386 => (if y386.length + l0.length < 140737488355328 then (avocetref01_U.l0 k a1 (y386 ++ l0)) else (none))) = some r := h
  clear h
  obtain ⟨y386, hy386⟩ : ∃ y_ : List Int, y_ = (([] : List Int)) := ⟨_, rfl⟩
  replace H : (if y386.length + l0.length < 140737488355328 then (avocetref01_U.l0 k a1 (y386 ++ l0)) else (none)) = some r := by first | (rw [hy386]; with_reducible exact H) | (have H2_ := (Option.bind_some _ _).symm.trans H; rw [hy386]; with_reducible exact H2_) | (have H2_ := (Option.bind_some _ _).symm.trans H; with_reducible exact H2_) | with_reducible exact H | (rw [hy386]; exact H) | exact H
  have Ny386 := Aside0.mk hy386
  clear hy386
  by_cases c3 : y386.length + l0.length < 140737488355328
  · rw [if_pos c3] at H
    have LMc3 := Aside0.mk c3
    clear c3
    obtain ⟨y389, hy389⟩ : ∃ y_ : List Int, y_ = (y386 ++ l0) := ⟨_, rfl⟩
    replace H : (avocetref01_U.l0 k a1 y389) = some r := by first | (rw [hy389]; with_reducible exact H) | (have H2_ := (Option.bind_some _ _).symm.trans H; rw [hy389]; with_reducible exact H2_) | (have H2_ := (Option.bind_some _ _).symm.trans H; with_reducible exact H2_) | with_reducible exact H | (rw [hy389]; exact H) | exact H
    have Ny389 := Aside0.mk hy389
    clear hy389
    have H' := Aside0.mk H
    clear H
    go_enter Tryd.func30, Tryd.ntmps30
    go_wp2_with (first | ((with_reducible refine gate_dst (N := 6) rfl ?_); refine Kd.R_lit (Kd.int .u8) _ 5 ?hg (N := 6) ?hd (xs := ([] : List Int)) (inner := []) (ok := fun _ => True) (okp := fun _ => True) ?hr ?hp (fun _ hk => hk) trivial (Below.refl _ _) (Nat.le_refl _) (by simp) ?_; (case hd => rfl); (case hg => rfl); (case hr => first | (go_simp; done) | (go_simp; rfl) | (go_simp; simp only [u8tail]; done)); (case hp => exact (Reps.none _ _)); intro v387 w4 ho5 hb hg_ hnew_; clear hg_ hnew_; (first | rw [← Ny386.out] at ho5 | (simp only [Int.reduceToNat] at ho5; rw [← Ny386.out] at ho5)); have n0_ := Aside0.mk (Kd.R_lower ho5 (below_size (by repeat (first | (with_reducible first | exact HB.out | apply below_alloc | apply pw_below_drewN | apply below_drew1) | exact HB.out)))); have n1_ := Aside0.mk (below_step (by repeat (first | (with_reducible first | exact HB.out | apply below_alloc | apply pw_below_drewN | apply below_drew1) | exact HB.out)) hb); clear HB; have HO388 := n0_; have HB := n1_; clear n0_ n1_; clear hb ho5) | ((with_reducible refine gate_builtin (b := .append) (xs := #[.tmp 6, .tmp 7]) rfl ?_); at_builtin; refine Kd.R_append_rows (Kd.int .u8) (w0 := w) w.heap.size rfl (.tmp 6) (.tmp 7) 22 5 (.int .u8 0) 1 rfl Tryd.underlying22 info5 rfl (by decide) (by omega) v387 y386 l0 _ _ _ (fun _ => True) (fun _ => False) rfl rfl ?aO ?aR (fun _ _ h => h) (fun _ h => h.elim) ?aF ?aB ?aS ?aL ?_; (case aR => repeat (first | exact (Kd.C_below HR0.out HB.out) | (with_reducible refine Kd.C_alloc ?_ _) | (with_reducible refine Kd.C_drewN ?_ _) | (with_reducible refine Kd.C_drew ?_))); (case aB => exact (by repeat (first | (with_reducible first | exact HB.out | apply below_alloc | apply pw_below_drewN | apply below_drew1) | exact HB.out))); (case aF => exact (fun _ _ => trivial)); (case aO => exact (by (with_reducible repeat (first | apply Kd.R_alloc | apply Kd.R_drewN | apply Kd.R_drew)); exact HO388.out)); (case aS => exact (below_size (by repeat (first | (with_reducible first | exact HB.out | apply below_alloc | apply pw_below_drewN | apply below_drew1) | exact HB.out)))); (case aL => have := LMc3.out; omega); intro v390 w6 ho hb hg hat; rw [← Ny389.out] at ho; have n0_ := Aside0.mk (hb); have n1_ := Aside0.mk (ho); clear HB; clear HO388; have HB := n0_; have HO391 := n1_; clear n0_ n1_; clear ho hb hg hat))
    go_loopg [1, 5] k (fun kq v1 v5 w' => ∃ (x1_1 : Int) (x5_1 : List Int), v1 = .int .u64 x1_1 ∧ Aside0 (avocetref01_U.l0 kq x1_1 x5_1 = some r) ∧ Aside0 (kq ≤ k) ∧ Aside0 (Kd.R (Kd.int .u8) 5 w' w.heap.size (fun _ => True) v5 x5_1) ∧ Aside0 (Below w.heap.size w w'))
    case atStart => exact ⟨(a1), (y389), (by first | rfl | (simp; done) | (simp [*]; done)), H', ⟨Nat.le_refl _⟩, ⟨by (with_reducible repeat (first | apply Kd.R_alloc | apply Kd.R_drewN | apply Kd.R_drew)); exact HO391.out⟩, ⟨by repeat (first | (with_reducible first | exact HB.out | apply below_alloc | apply pw_below_drewN | apply below_drew1) | exact HB.out)⟩⟩
    case round =>
      clear H'
      try clear p2
      try clear c3
      obtain ⟨x1_1, x5_1, rfl, HA, HK1, HO_5, HB⟩ := hrel
      cases gk with
      | zero => exact absurd HA.out (by simp [avocetref01_U.l0])
      | succ k1 =>
        have H := HA.out
        clear HA
        simp only [avocetref01_U.l0] at H
        by_cases c7 : x1_1 ≥ 128
        · rw [if_pos c7] at H
          have c7b0 : decide (128 ≤ x1_1) = true := decide_eq_true c7
          clear c7
          by_cases c8 : x5_1.length < 140737488355328
          · rw [if_pos c8] at H
            have LMc8 := Aside0.mk c8
            clear c8
            obtain ⟨y392, hy392⟩ : ∃ y_ : List Int, y_ = (x5_1 ++ [(IntKind.u64.wrap (128 + (Int.tmod x1_1 128))) % 256]) := ⟨_, rfl⟩
            replace H : (avocetref01_U.l0 k1 (IntKind.u64.wrap (Int.tdiv x1_1 128)) y392) = some r := by first | (rw [hy392]; with_reducible exact H) | (have H2_ := (Option.bind_some _ _).symm.trans H; rw [hy392]; with_reducible exact H2_) | (have H2_ := (Option.bind_some _ _).symm.trans H; with_reducible exact H2_) | with_reducible exact H | (rw [hy392]; exact H) | exact H
            have Ny392 := Aside0.mk hy392
            clear hy392
            have H' := Aside0.mk H
            clear H
            go_wp2_with (first | ((with_reducible refine gate_builtin (b := .append) (xs := #[.tmp 11, .tmp 16]) rfl ?_); at_builtin; refine Kd.R_append (Kd.int .u8) (w0 := w) w.heap.size rfl (.tmp 11) (.tmp 16) 22 5 (.int .u8 0) 1 rfl Tryd.underlying22 info5 rfl (by decide) (by omega) u5 x5_1 ((IntKind.u64.wrap (128 + (Int.tmod x1_1 128))) % 256) [.int .u8 ((IntKind.u64.wrap (128 + (Int.tmod x1_1 128))) % 256)] (fun _ => True) (fun _ => False) rfl rfl ?aP (fun _ hk => hk.elim) ?aF ?aO ?aB ?aS ?aL ?_; (case aP => exact rfl); (case aB => exact (by repeat (first | (with_reducible first | exact HB.out | apply below_alloc | apply pw_below_drewN | apply below_drew1) | exact HB.out))); (case aF => exact (fun _ _ => trivial)); (case aO => exact (by (with_reducible repeat (first | apply Kd.R_alloc | apply Kd.R_drewN | apply Kd.R_drew)); exact HO_5.out)); (case aS => exact (below_size (by repeat (first | (with_reducible first | exact HB.out | apply below_alloc | apply pw_below_drewN | apply below_drew1) | exact HB.out)))); (case aL => have := LMc8.out; omega); intro v393 w9 ho hb hg hat; rw [← Ny392.out] at ho; have n0_ := Aside0.mk (hb); have n1_ := Aside0.mk (ho); clear HB; clear HO_5; have HB := n0_; have HO394 := n1_; clear n0_ n1_; clear ho hb hg hat))
            go_roundg k1
            case measure => have := HK1.out; omega
            case rel => exact ⟨(IntKind.u64.wrap (Int.tdiv x1_1 128)), (y392), (by first | rfl | (simp; done) | (simp [*]; done)), H', ⟨by have := HK1.out; omega⟩, ⟨by (with_reducible repeat (first | apply Kd.R_alloc | apply Kd.R_drewN | apply Kd.R_drew)); exact HO394.out⟩, ⟨by repeat (first | (with_reducible first | exact HB.out | apply below_alloc | apply pw_below_drewN | apply below_drew1) | exact HB.out)⟩⟩
          · rw [if_neg c8] at H
            exact absurd H (by simp)
        · rw [if_neg c7] at H
          have c7b0 : decide (128 ≤ x1_1) = false := decide_eq_false c7
          clear c7
          by_cases c10 : x5_1.length < 140737488355328
          · rw [if_pos c10] at H
            have LMc10 := Aside0.mk c10
            clear c10
            obtain ⟨y395, hy395⟩ : ∃ y_ : List Int, y_ = (x5_1 ++ [(x1_1) % 256]) := ⟨_, rfl⟩
            replace H : (some y395) = some r := by first | (rw [hy395]; with_reducible exact H) | (have H2_ := (Option.bind_some _ _).symm.trans H; rw [hy395]; with_reducible exact H2_) | (have H2_ := (Option.bind_some _ _).symm.trans H; with_reducible exact H2_) | with_reducible exact H | (rw [hy395]; exact H) | exact H
            have Ny395 := Aside0.mk hy395
            clear hy395
            obtain rfl := Option.some.inj H
            go_wp2_with (first | ((with_reducible refine gate_builtin (b := .append) (xs := #[.tmp 20, .tmp 23]) rfl ?_); at_builtin; refine Kd.R_append (Kd.int .u8) (w0 := w) w.heap.size rfl (.tmp 20) (.tmp 23) 22 5 (.int .u8 0) 1 rfl Tryd.underlying22 info5 rfl (by decide) (by omega) u5 x5_1 ((x1_1) % 256) [.int .u8 ((x1_1) % 256)] (fun _ => True) (fun _ => False) rfl rfl ?aP (fun _ hk => hk.elim) ?aF ?aO ?aB ?aS ?aL ?_; (case aP => exact rfl); (case aB => exact (by repeat (first | (with_reducible first | exact HB.out | apply below_alloc | apply pw_below_drewN | apply below_drew1) | exact HB.out))); (case aF => exact (fun _ _ => trivial)); (case aO => exact (by (with_reducible repeat (first | apply Kd.R_alloc | apply Kd.R_drewN | apply Kd.R_drew)); exact HO_5.out)); (case aS => exact (below_size (by repeat (first | (with_reducible first | exact HB.out | apply below_alloc | apply pw_below_drewN | apply below_drew1) | exact HB.out)))); (case aL => have := LMc10.out; omega); intro v396 w11 ho hb hg hat; rw [← Ny395.out] at ho; have n0_ := Aside0.mk (hb); have n1_ := Aside0.mk (ho); clear HB; clear HO_5; have HB := n0_; have HO397 := n1_; clear n0_ n1_; clear ho hb hg hat))
            go_ret
            exact ⟨_, by first | rfl | (simp [errW_none, errW_some] <;> rfl) | (simp [*, errW_none, errW_some] <;> rfl), by (with_reducible repeat (first | apply Kd.R_alloc | apply Kd.R_drewN | apply Kd.R_drew)); exact HO397.out, by repeat (first | (with_reducible first | exact HB.out | apply below_alloc | apply pw_below_drewN | apply below_drew1) | exact HB.out)⟩
          · rw [if_neg c10] at H
            exact absurd H (by simp)
  · rw [if_neg c3] at H
    exact absurd H (by simp)

/-! ### avocetref03_Lay: function 19 -/
def avocetref03_Lay.f (k : Nat) (l0 : List Int) (a1 : ByteArray) : Option (List Int × Int) := if (a1.size : Int) > 64 then (some (([] : List Int), 4)) else (if a1.size < 140737488355328 then ((avocetref03_Valid.f k (bytesOf a1)).bind fun t402 => (if t402 = true then ((avocetref01_U.f k l0 (IntKind.u64.wrap ((a1.size : Int)))).bind fun t403 => (if t403.length + a1.size < 140737488355328 then (some ((t403 ++ bytesOf a1), 0)) else (none))) else (some (([] : List Int), 3)))) else (none))
theorem avocetref03_Lay.mono : ∀ a0 a1 k, LeO (avocetref03_Lay.f k a0 a1) (avocetref03_Lay.f (k + 1) a0 a1) := by
  intro a0 a1 k
  unfold avocetref03_Lay.f
  repeat' first
      | (with_reducible exact avocetref01_U.mono _ _ _)
      | (with_reducible exact avocetref03_Valid.mono _ _)
      | (with_reducible exact LeO.refl _)
      | (with_reducible exact LeO.none _)
      | (with_reducible refine LeO.ite ?_ ?_)
      | (with_reducible refine LeO.bind ?_ (fun _ => ?_))
      | exact avocetref01_U.mono _ _ _
      | exact avocetref03_Valid.mono _ _
      | exact LeO.none _
      | refine LeO.ite ?_ ?_
      | refine LeO.bind ?_ (fun _ => ?_)
set_option maxHeartbeats 8000000 in
set_option maxRecDepth 100000 in
theorem avocetref03_Lay.calls (k : Nat) (A0 : Option Addr) (c0 : Nat) (l0 : List Int) (a1 : ByteArray) (r1 : List Int) (r2 : Int) (w : World) (hr0 : Kd.C (Kd.int .u8) w A0 l0.length l0) (hc0 : l0.length ≤ c0) (h : avocetref03_Lay.f k l0 a1 = some (r1, r2)) :
    Calls Tryd.prog 19 #[.slice A0 l0.length c0, .string a1] w fun e w' => ∃ v0_ : Value, e = .returned (.tuple #[v0_, .int .i64 r2]) ∧ Kd.R (Kd.int .u8) 5 w' w.heap.size (fun _ => True) v0_ r1 ∧ Below w.heap.size w w' := by
  have HR0 := Aside0.mk hr0
  have HC0 := Aside0.mk hc0
  clear hr0 hc0
  have HB := Aside0.mk (Below.refl w.heap.size w)
  have H : (if (a1.size : Int) > 64 then (some (([] : List Int), 4)) else (if a1.size < 140737488355328 then ((avocetref03_Valid.f k (bytesOf a1)).bind fun t402 => (if t402 = true then ((avocetref01_U.f k l0 (IntKind.u64.wrap ((a1.size : Int)))).bind fun t403 => (if t403.length + a1.size < 140737488355328 then (some ((t403 ++ bytesOf a1), 0)) else (none))) else (some (([] : List Int), 3)))) else (none))) = some (r1, r2) := h
  clear h
  by_cases c3 : (a1.size : Int) > 64
  · rw [if_pos c3] at H
    have c3b0 : decide (64 < (a1.size : Int)) = true := decide_eq_true c3
    have c3b1 : decide (64 < a1.size) = true := decide_eq_true (by omega)
    clear c3
    simp only [Option.some.injEq, Prod.mk.injEq] at H
    obtain ⟨rfl, rfl⟩ := H
    go_enter Tryd.func19, Tryd.ntmps19
    go_wp2
    go_ret2
    exact ⟨_, by first | rfl | (simp [errW_none, errW_some] <;> rfl) | (simp [*, errW_none, errW_some] <;> rfl), by first | exact Kd.R_nil _ _ _ _ _ | exact Kd.N_nil _ _ _ _ _ | exact Kd.V_nil _ _ _ _ _ | exact Kd.Q_nil _ _ _ _ _ | exact Kd.S_nil _ _ _ _ _, by repeat (first | (with_reducible first | exact HB.out | apply below_alloc | apply pw_below_drewN | apply below_drew1) | exact HB.out)⟩
  · rw [if_neg c3] at H
    have c3b0 : decide (64 < (a1.size : Int)) = false := decide_eq_false c3
    have c3b1 : decide (64 < a1.size) = false := decide_eq_false (by omega)
    clear c3
    by_cases c4 : a1.size < 140737488355328
    · rw [if_pos c4] at H
      have c4b0 := eq_true c4
      have c4b1 : decide (a1.size < 140737488355328) = true := decide_eq_true c4
      clear c4
      obtain ⟨y398, hy398⟩ : ∃ y_ : List Int, y_ = (bytesOf a1) := ⟨_, rfl⟩
      replace H : ((avocetref03_Valid.f k y398).bind fun t402 => (if t402 = true then ((avocetref01_U.f k l0 (IntKind.u64.wrap ((a1.size : Int)))).bind fun t403 => (if t403.length + a1.size < 140737488355328 then (some ((t403 ++ bytesOf a1), 0)) else (none))) else (some (([] : List Int), 3)))) = some (r1, r2) := by first | (rw [hy398]; with_reducible exact H) | (have H2_ := (Option.bind_some _ _).symm.trans H; rw [hy398]; with_reducible exact H2_) | (have H2_ := (Option.bind_some _ _).symm.trans H; with_reducible exact H2_) | with_reducible exact H | (rw [hy398]; exact H) | exact H
      have Ny398 := Aside0.mk hy398
      clear hy398
      replace H := Option.bind_eq_some_iff.mp H
      obtain ⟨t402, A50, H⟩ := H
      replace H : (if t402 = true then ((avocetref01_U.f k l0 (IntKind.u64.wrap ((a1.size : Int)))).bind fun t403 => (if t403.length + a1.size < 140737488355328 then (some ((t403 ++ bytesOf a1), 0)) else (none))) else (some (([] : List Int), 3))) = some (r1, r2) := H
      have A5 := Aside0.mk A50
      clear A50
      by_cases c6 : t402 = true
      · subst c6
        have H1 : ((avocetref01_U.f k l0 (IntKind.u64.wrap ((a1.size : Int)))).bind fun t403 => (if t403.length + a1.size < 140737488355328 then (some ((t403 ++ bytesOf a1), 0)) else (none))) = some (r1, r2) := by rw [if_pos rfl] at H; exact H
        clear H
        have H := H1
        clear H1
        replace H := Option.bind_eq_some_iff.mp H
        obtain ⟨t403, A70, H⟩ := H
        replace H : (if t403.length + a1.size < 140737488355328 then (some ((t403 ++ bytesOf a1), 0)) else (none)) = some (r1, r2) := H
        have A7 := Aside0.mk A70
        clear A70
        by_cases c8 : t403.length + a1.size < 140737488355328
        · rw [if_pos c8] at H
          have LMc8 := Aside0.mk c8
          clear c8
          obtain ⟨y406, hy406⟩ : ∃ y_ : List Int, y_ = (t403 ++ bytesOf a1) := ⟨_, rfl⟩
          replace H : (some (y406, 0)) = some (r1, r2) := by first | (rw [hy406]; with_reducible exact H) | (have H2_ := (Option.bind_some _ _).symm.trans H; rw [hy406]; with_reducible exact H2_) | (have H2_ := (Option.bind_some _ _).symm.trans H; with_reducible exact H2_) | with_reducible exact H | (rw [hy406]; exact H) | exact H
          have Ny406 := Aside0.mk hy406
          clear hy406
          simp only [Option.some.injEq, Prod.mk.injEq] at H
          obtain ⟨rfl, rfl⟩ := H
          go_enter Tryd.func19, Tryd.ntmps19
          go_wp2_with (first | ((with_reducible refine gate_dst (N := 11) rfl ?_); refine conv_event ?hg (N := 11) ?hd (s := a1) (e := 5) Ny398.out ?hr ?hz ?_; (case hd => rfl); (case hg => rfl); (case hr => have kb_ := print_bytes (P := Tryd.prog) 9 22 5 Tryd.underlying9 Tryd.underlying22 Tryd.underlying5 a1; first | (go_simp; done) | (go_simp; rfl)); (case hz => have h_ : (a1.size < 140737488355328) := of_decide_eq_true (by first | (with_reducible assumption) | assumption); omega); intro A401 c401 w9 hr hc hb; have n0_ := Aside0.mk (below_step (by repeat (first | (with_reducible first | exact HB.out | apply below_alloc | apply pw_below_drewN | apply below_drew1) | exact HB.out)) hb); have n1_ := Aside0.mk (hr); have n2_ := Aside0.mk (hc); clear HB; have HB := n0_; have HR401 := n1_; have HC401 := n2_; clear n0_ n1_ n2_; clear hb hr hc) | ((with_reducible refine gate_callee (f := 20) rfl ?_); refine goesL_ (some 12) rfl rfl Tryd.func20 (by kernel_rfl) rfl #[.slice A401 y398.length c401] rfl (by (try simp only [List.map_toArray, List.map_cons, List.map_nil]); first | done | rfl | (simp only [List.length_drop, List.length_take]; rfl)) ?_; (with_reducible refine (avocetref03_Valid.calls k _ _ y398 true _ ?side1 ?side2 A5.out).mono ?_); (case side1 => repeat (first | exact HR401.out | (with_reducible refine Kd.C_drewN ?_ _) | (with_reducible refine Kd.C_drew ?_))); (case side2 => exact HC401.out); rintro e w10 ⟨rfl, hb⟩; refine ⟨_, rfl, ?_⟩; have n0_ := Aside0.mk (below_step (by repeat (first | (with_reducible first | exact HB.out | apply below_alloc | apply pw_below_drewN | apply below_drew1) | exact HB.out)) hb); clear HB; have HB := n0_; clear n0_; (try clear hb); (try clear hb2); (try clear hk); (try clear hi)) | ((with_reducible refine gate_callee (f := 30) rfl ?_); refine goesL_ (some 18) rfl rfl Tryd.func30 (by kernel_rfl) rfl #[.slice A0 l0.length c0, .int .u64 (IntKind.u64.wrap ((a1.size : Int)))] rfl (by (try simp only [List.map_toArray, List.map_cons, List.map_nil]); first | done | rfl | (simp only [List.length_drop, List.length_take]; rfl)) ?_; (with_reducible refine (avocetref01_U.calls k _ _ l0 (IntKind.u64.wrap ((a1.size : Int))) t403 _ ?side1 ?side2 A7.out).mono ?_); (case side1 => repeat (first | exact (Kd.C_below HR0.out HB.out) | (with_reducible refine Kd.C_alloc ?_ _) | (with_reducible refine Kd.C_drewN ?_ _) | (with_reducible refine Kd.C_drew ?_))); (case side2 => exact HC0.out); rintro e w11 ⟨v404, rfl, ho0, hb⟩; refine ⟨_, rfl, ?_⟩; have n0_ := Aside0.mk (Kd.R_lower ho0 (below_size (by repeat (first | (with_reducible first | exact HB.out | apply below_alloc | apply pw_below_drewN | apply below_drew1) | exact HB.out)))); have n1_ := Aside0.mk (below_step (by repeat (first | (with_reducible first | exact HB.out | apply below_alloc | apply pw_below_drewN | apply below_drew1) | exact HB.out)) hb); clear HB; have HO405 := n0_; have HB := n1_; clear n0_ n1_; (try clear hb); (try clear hb2); (try clear hk); (try clear hi); (try clear ho0)) | (at_builtin; refine print_append_str (w0 := w) w.heap.size rfl (.tmp 19) _ 22 9 5 rfl Tryd.underlying22 Tryd.underlying9 info5 v404 t403 a1 rfl rfl ?aO ?aB ?aS ?aL ?_; (case aB => exact (by repeat (first | (with_reducible first | exact HB.out | apply below_alloc | apply pw_below_drewN | apply below_drew1) | exact HB.out))); (case aO => exact (Kd.own_of_R (by (with_reducible repeat (first | apply Kd.R_alloc | apply Kd.R_drewN | apply Kd.R_drew)); exact HO405.out))); (case aS => exact (below_size (by repeat (first | (with_reducible first | exact HB.out | apply below_alloc | apply pw_below_drewN | apply below_drew1) | exact HB.out)))); (case aL => have := LMc8.out; omega); intro v407 w12 ho0 hb hg; have ho := Kd.R_of_own (h1 := fun _ => rfl) (ok := fun _ => True) ho0 (fun _ _ => trivial); clear ho0; have hat := True.intro; rw [← Ny406.out] at ho; change Kd.R (Kd.int .u8) 5 w12 w.heap.size (fun _ => True) v407 y406 at ho; have n0_ := Aside0.mk (hb); have n1_ := Aside0.mk (ho); clear HB; clear HO405; have HB := n0_; have HO408 := n1_; clear n0_ n1_; clear ho hb hg hat))
          go_ret2
          exact ⟨_, by first | rfl | (simp [errW_none, errW_some] <;> rfl) | (simp [*, errW_none, errW_some] <;> rfl), by (with_reducible repeat (first | apply Kd.R_alloc | apply Kd.R_drewN | apply Kd.R_drew)); exact HO408.out, by repeat (first | (with_reducible first | exact HB.out | apply below_alloc | apply pw_below_drewN | apply below_drew1) | exact HB.out)⟩
        · rw [if_neg c8] at H
          exact absurd H (by simp)
      · replace c6 := Bool.eq_false_iff.mpr c6
        subst c6
        have H1 : (some (([] : List Int), 3)) = some (r1, r2) := by rw [if_neg (show ¬ (false = true) by decide)] at H; exact H
        clear H
        have H := H1
        clear H1
        simp only [Option.some.injEq, Prod.mk.injEq] at H
        obtain ⟨rfl, rfl⟩ := H
        go_enter Tryd.func19, Tryd.ntmps19
        go_wp2_with (first | ((with_reducible refine gate_dst (N := 11) rfl ?_); refine conv_event ?hg (N := 11) ?hd (s := a1) (e := 5) Ny398.out ?hr ?hz ?_; (case hd => rfl); (case hg => rfl); (case hr => have kb_ := print_bytes (P := Tryd.prog) 9 22 5 Tryd.underlying9 Tryd.underlying22 Tryd.underlying5 a1; first | (go_simp; done) | (go_simp; rfl)); (case hz => have h_ : (a1.size < 140737488355328) := of_decide_eq_true (by first | (with_reducible assumption) | assumption); omega); intro A401 c401 w13 hr hc hb; have n0_ := Aside0.mk (below_step (by repeat (first | (with_reducible first | exact HB.out | apply below_alloc | apply pw_below_drewN | apply below_drew1) | exact HB.out)) hb); have n1_ := Aside0.mk (hr); have n2_ := Aside0.mk (hc); clear HB; have HB := n0_; have HR401 := n1_; have HC401 := n2_; clear n0_ n1_ n2_; clear hb hr hc) | ((with_reducible refine gate_callee (f := 20) rfl ?_); refine goesL_ (some 12) rfl rfl Tryd.func20 (by kernel_rfl) rfl #[.slice A401 y398.length c401] rfl (by (try simp only [List.map_toArray, List.map_cons, List.map_nil]); first | done | rfl | (simp only [List.length_drop, List.length_take]; rfl)) ?_; (with_reducible refine (avocetref03_Valid.calls k _ _ y398 false _ ?side1 ?side2 A5.out).mono ?_); (case side1 => repeat (first | exact HR401.out | (with_reducible refine Kd.C_drewN ?_ _) | (with_reducible refine Kd.C_drew ?_))); (case side2 => exact HC401.out); rintro e w14 ⟨rfl, hb⟩; refine ⟨_, rfl, ?_⟩; have n0_ := Aside0.mk (below_step (by repeat (first | (with_reducible first | exact HB.out | apply below_alloc | apply pw_below_drewN | apply below_drew1) | exact HB.out)) hb); clear HB; have HB := n0_; clear n0_; (try clear hb); (try clear hb2); (try clear hk); (try clear hi)))
        go_ret2
        exact ⟨_, by first | rfl | (simp [errW_none, errW_some] <;> rfl) | (simp [*, errW_none, errW_some] <;> rfl), by first | exact Kd.R_nil _ _ _ _ _ | exact Kd.N_nil _ _ _ _ _ | exact Kd.V_nil _ _ _ _ _ | exact Kd.Q_nil _ _ _ _ _ | exact Kd.S_nil _ _ _ _ _, by repeat (first | (with_reducible first | exact HB.out | apply below_alloc | apply pw_below_drewN | apply below_drew1) | exact HB.out)⟩
    · rw [if_neg c4] at H
      exact absurd H (by simp)

/-! ### avocetlaw03_UtfIs: function 8 -/
def avocetlaw03_UtfIs.j0 : Nat → List Int → List Int → Int → ByteArray → Bool → Bool → Option (Bool)
  | 0, _, _, _, _, _, _ => none
  | k + 1, x0, x1, x2, x3, x9, x41 => if x41 = true then (some x9) else ((utf_Runes.f x0).bind fun bt410 => ((avocetref03_Runes.f k x0).bind fun bt414 => ((utf_FromRunes.f k x1).bind fun bt418 => ((avocetref03_FromRunes.f k x1).bind fun bt422 => ((utf_Name.f x0 x2).bind fun bt426 => ((avocetref03_Name.f k x0 x2).bind fun bt429 => ((utf_Lay.f k x0 x3).bind fun bt432 => ((avocetref03_Lay.f k x0 x3).bind fun bt436 => (if x9 = true then ((utf_Valid.f x0).bind fun t440 => ((avocetref03_Valid.f k x0).bind fun t441 => (if (t440 == t441) = true then ((avocetref03_Ints.f k bt410.1 bt414.1).bind fun t442 => (if t442 = true then (if (bt410.2 == bt414.2) = true then (if (strOfNums bt418.1).toList = (strOfNums bt422.1).toList then (if (bt418.2 == bt422.2) = true then (if bt426.1.toList = bt429.1.toList then (if bt426.2.1 = bt429.2.1 then (if bt426.2.2 = bt429.2.2 then (if (strOfNums bt432.1).toList = (strOfNums bt436.1).toList then (some (bt432.2 == bt436.2)) else (some false)) else (some false)) else (some false)) else (some false)) else (some false)) else (some false)) else (some false)) else (some false))) else (some false)))) else (some false))))))))))
def avocetlaw03_UtfIs.f (k : Nat) (l0 : List Int) (l1 : List Int) (a2 : Int) (a3 : ByteArray) : Option (Bool) := (avocetlaw03_awake.f).bind fun t409 => (if (l0.length : Int) > 500 then (avocetlaw03_UtfIs.j0 k l0 l1 a2 a3 t409 true) else (if (l1.length : Int) > 200 then (avocetlaw03_UtfIs.j0 k l0 l1 a2 a3 t409 true) else (avocetlaw03_UtfIs.j0 k l0 l1 a2 a3 t409 (decide ((a3.size : Int) > 200)))))
theorem avocetlaw03_UtfIs.mono_l : ∀ k, (∀ y0 y1 y2 y3 y4 y5, LeO (avocetlaw03_UtfIs.j0 k y0 y1 y2 y3 y4 y5) (avocetlaw03_UtfIs.j0 (k + 1) y0 y1 y2 y3 y4 y5))
  | 0 => fun _ _ _ _ _ _ r h => by simp [avocetlaw03_UtfIs.j0] at h
  | k + 1 => by
    have ih0 := avocetlaw03_UtfIs.mono_l k
    · intro y0 y1 y2 y3 y4 y5
      unfold avocetlaw03_UtfIs.j0
      repeat' first
      | (with_reducible exact ih0 _ _ _ _ _ _)
      | (with_reducible exact avocetref03_FromRunes.mono _ _)
      | (with_reducible exact avocetref03_Ints.mono _ _ _)
      | (with_reducible exact avocetref03_Lay.mono _ _ _)
      | (with_reducible exact avocetref03_Name.mono _ _ _)
      | (with_reducible exact avocetref03_Runes.mono _ _)
      | (with_reducible exact avocetref03_Valid.mono _ _)
      | (with_reducible exact utf_FromRunes.mono _ _)
      | (with_reducible exact utf_Lay.mono _ _ _)
      | (with_reducible exact LeO.refl _)
      | (with_reducible exact LeO.none _)
      | (with_reducible refine LeO.ite ?_ ?_)
      | (with_reducible refine LeO.bind ?_ (fun _ => ?_))
      | exact ih0 _ _ _ _ _ _
      | exact avocetref03_FromRunes.mono _ _
      | exact avocetref03_Ints.mono _ _ _
      | exact avocetref03_Lay.mono _ _ _
      | exact avocetref03_Name.mono _ _ _
      | exact avocetref03_Runes.mono _ _
      | exact avocetref03_Valid.mono _ _
      | exact utf_FromRunes.mono _ _
      | exact utf_Lay.mono _ _ _
      | exact LeO.none _
      | refine LeO.ite ?_ ?_
      | refine LeO.bind ?_ (fun _ => ?_)
theorem avocetlaw03_UtfIs.mono : ∀ a0 a1 a2 a3 k, LeO (avocetlaw03_UtfIs.f k a0 a1 a2 a3) (avocetlaw03_UtfIs.f (k + 1) a0 a1 a2 a3) := by
  intro a0 a1 a2 a3 k
  have ih0 := avocetlaw03_UtfIs.mono_l k
  unfold avocetlaw03_UtfIs.f
  repeat' first
      | (with_reducible exact ih0 _ _ _ _ _ _)
      | (with_reducible exact avocetref03_FromRunes.mono _ _)
      | (with_reducible exact avocetref03_Ints.mono _ _ _)
      | (with_reducible exact avocetref03_Lay.mono _ _ _)
      | (with_reducible exact avocetref03_Name.mono _ _ _)
      | (with_reducible exact avocetref03_Runes.mono _ _)
      | (with_reducible exact avocetref03_Valid.mono _ _)
      | (with_reducible exact utf_FromRunes.mono _ _)
      | (with_reducible exact utf_Lay.mono _ _ _)
      | (with_reducible exact LeO.refl _)
      | (with_reducible exact LeO.none _)
      | (with_reducible refine LeO.ite ?_ ?_)
      | (with_reducible refine LeO.bind ?_ (fun _ => ?_))
      | exact ih0 _ _ _ _ _ _
      | exact avocetref03_FromRunes.mono _ _
      | exact avocetref03_Ints.mono _ _ _
      | exact avocetref03_Lay.mono _ _ _
      | exact avocetref03_Name.mono _ _ _
      | exact avocetref03_Runes.mono _ _
      | exact avocetref03_Valid.mono _ _
      | exact utf_FromRunes.mono _ _
      | exact utf_Lay.mono _ _ _
      | exact LeO.none _
      | refine LeO.ite ?_ ?_
      | refine LeO.bind ?_ (fun _ => ?_)
set_option maxHeartbeats 8000000 in
set_option maxRecDepth 100000 in
theorem avocetlaw03_UtfIs.calls (k : Nat) (A0 : Option Addr) (c0 : Nat) (l0 : List Int) (A1 : Option Addr) (c1 : Nat) (l1 : List Int) (a2 : Int) (a3 : ByteArray) (r : Bool) (w : World) (hG : Globs w) (hr0 : Kd.C (Kd.int .u8) w A0 l0.length l0) (hc0 : l0.length ≤ c0) (hr1 : Kd.C (Kd.int .i64) w A1 l1.length l1) (hc1 : l1.length ≤ c1) (hr_ : r = true) (h : avocetlaw03_UtfIs.f k l0 l1 a2 a3 = some r) :
    Calls Tryd.prog 8 #[.slice A0 l0.length c0, .slice A1 l1.length c1, .int .i64 a2, .string a3] w fun e w' => e = .returned (.bool r) ∧ Below w.heap.size w w' := by
  have HRT_ := Aside0.mk hr_
  clear hr_
  have HG := Aside0.mk hG
  clear hG
  have HR0 := Aside0.mk hr0
  have HC0 := Aside0.mk hc0
  clear hr0 hc0
  have HR1 := Aside0.mk hr1
  have HC1 := Aside0.mk hc1
  clear hr1 hc1
  have HB := Aside0.mk (Below.refl w.heap.size w)
  have H : ((avocetlaw03_awake.f).bind fun t409 => (if (l0.length : Int) > 500 then (avocetlaw03_UtfIs.j0 k l0 l1 a2 a3 t409 true) else (if (l1.length : Int) > 200 then (avocetlaw03_UtfIs.j0 k l0 l1 a2 a3 t409 true) else (avocetlaw03_UtfIs.j0 k l0 l1 a2 a3 t409 (decide ((a3.size : Int) > 200)))))) = some r := h
  clear h
  replace H := Option.bind_eq_some_iff.mp H
  obtain ⟨t409, A50, H⟩ := H
  replace H : (if (l0.length : Int) > 500 then (avocetlaw03_UtfIs.j0 k l0 l1 a2 a3 t409 true) else (if (l1.length : Int) > 200 then (avocetlaw03_UtfIs.j0 k l0 l1 a2 a3 t409 true) else (avocetlaw03_UtfIs.j0 k l0 l1 a2 a3 t409 (decide ((a3.size : Int) > 200))))) = some r := H
  have A5 := Aside0.mk A50
  clear A50
  have HC6 := Aside0.mk H
  clear H
  go_enter Tryd.func8, Tryd.ntmps8
  go_upto_region 2 with (first | ((with_reducible refine gate_callee (f := 9) rfl ?_); refine goesL_ (some 28) rfl rfl Tryd.func9 (by kernel_rfl) rfl #[] rfl (by (try simp only [List.map_toArray, List.map_cons, List.map_nil]); first | done | rfl | (simp only [List.length_drop, List.length_take]; rfl)) ?_; (with_reducible refine (avocetlaw03_awake.calls  t409 _ ?side1 A5.out).mono ?_); (case side1 => first | exact Globs.below HG.out HB.out | exact Globs.below HG.out (by repeat (first | (with_reducible first | exact HB.out | apply below_alloc | apply pw_below_drewN | apply below_drew1) | exact HB.out)) | (repeat (first | exact HG.out | (with_reducible refine Globs.alloc ?_ _) | (with_reducible refine Globs.drewN ?_ _) | (with_reducible refine Globs.drew ?_)))); rintro e w7 ⟨rfl, hb⟩; refine ⟨_, rfl, ?_⟩; have n0_ := Aside0.mk (below_step (by repeat (first | (with_reducible first | exact HB.out | apply below_alloc | apply pw_below_drewN | apply below_drew1) | exact HB.out)) hb); clear HB; have HB := n0_; clear n0_; (try clear hb); (try clear hb2); (try clear hk); (try clear hi)))
  (try simp only [Act.put, List.setIfInBounds_toArray, List.set_cons_zero, List.set_cons_succ])
  go_cut [41] (fun v41 wc => ∃ (kq : Nat) (x41_5 : Bool), v41 = .bool x41_5 ∧ Aside0 (avocetlaw03_UtfIs.j0 kq l0 l1 a2 a3 t409 x41_5 = some r) ∧ Aside0 (kq ≤ k) ∧ Aside0 (Below w.heap.size w wc))
  case first =>
    have H := HC6.out
    clear HC6
    by_cases c8 : (l0.length : Int) > 500
    · rw [if_pos c8] at H
      have c8b0 : decide (500 < (l0.length : Int)) = true := decide_eq_true c8
      have c8b1 : decide (500 < l0.length) = true := decide_eq_true (by omega)
      clear c8
      (first | rw [c8b0] | (simp only [i64_w, i32_w]; rw [c8b0]) | skip)
      have H' := Aside0.mk H
      clear H
      go_wp2
      go_meet
      case rel => exact ⟨_, (true), (by first | rfl | (simp; done) | (simp [*]; done)), H', ⟨by first | omega | exact Nat.le_refl _⟩, ⟨by repeat (first | (with_reducible first | exact HB.out | apply below_alloc | apply pw_below_drewN | apply below_drew1) | exact HB.out)⟩⟩
    · rw [if_neg c8] at H
      have c8b0 : decide (500 < (l0.length : Int)) = false := decide_eq_false c8
      have c8b1 : decide (500 < l0.length) = false := decide_eq_false (by omega)
      clear c8
      (first | rw [c8b0] | (simp only [i64_w, i32_w]; rw [c8b0]) | skip)
      by_cases c9 : (l1.length : Int) > 200
      · rw [if_pos c9] at H
        have c9b0 : decide (200 < (l1.length : Int)) = true := decide_eq_true c9
        have c9b1 : decide (200 < l1.length) = true := decide_eq_true (by omega)
        clear c9
        have H' := Aside0.mk H
        clear H
        go_wp2
        go_meet
        case rel => exact ⟨_, (true), (by first | rfl | (simp; done) | (simp [*]; done)), H', ⟨by first | omega | exact Nat.le_refl _⟩, ⟨by repeat (first | (with_reducible first | exact HB.out | apply below_alloc | apply pw_below_drewN | apply below_drew1) | exact HB.out)⟩⟩
      · rw [if_neg c9] at H
        have c9b0 : decide (200 < (l1.length : Int)) = false := decide_eq_false c9
        have c9b1 : decide (200 < l1.length) = false := decide_eq_false (by omega)
        clear c9
        have H' := Aside0.mk H
        clear H
        go_wp2
        go_meet
        case rel => exact ⟨_, (decide ((a3.size : Int) > 200)), (by first | rfl | (simp; done) | (simp [*]; done)), H', ⟨by first | omega | exact Nat.le_refl _⟩, ⟨by repeat (first | (with_reducible first | exact HB.out | apply below_alloc | apply pw_below_drewN | apply below_drew1) | exact HB.out)⟩⟩
  case rest =>
    clear HC6
    try clear c1
    try clear p2
    try clear c8
    try clear c8b0
    try clear c8b1
    try clear c9
    try clear c9b0
    try clear c9b1
    obtain ⟨kq, x41_5, rfl, HA, HJ5, HB⟩ := hcut
    cases kq with
    | zero => exact absurd HA.out (by simp [avocetlaw03_UtfIs.j0])
    | succ kj5 =>
      have H := HA.out
      clear HA
      simp only [avocetlaw03_UtfIs.j0] at H
      by_cases c10 : x41_5 = true
      · subst c10
        have H1 : (some t409) = some r := by rw [if_pos rfl] at H; exact H
        clear H
        have H := H1
        clear H1
        obtain rfl := Option.some.inj H
        go_wp2
        go_ret
        exact ⟨by first | rfl | (simp [errW_none, errW_some] <;> rfl) | (simp [*, errW_none, errW_some] <;> rfl), by repeat (first | (with_reducible first | exact HB.out | apply below_alloc | apply pw_below_drewN | apply below_drew1) | exact HB.out)⟩
      · replace c10 := Bool.eq_false_iff.mpr c10
        subst c10
        have H1 : ((utf_Runes.f l0).bind fun bt410 => ((avocetref03_Runes.f kj5 l0).bind fun bt414 => ((utf_FromRunes.f kj5 l1).bind fun bt418 => ((avocetref03_FromRunes.f kj5 l1).bind fun bt422 => ((utf_Name.f l0 a2).bind fun bt426 => ((avocetref03_Name.f kj5 l0 a2).bind fun bt429 => ((utf_Lay.f kj5 l0 a3).bind fun bt432 => ((avocetref03_Lay.f kj5 l0 a3).bind fun bt436 => (if t409 = true then ((utf_Valid.f l0).bind fun t440 => ((avocetref03_Valid.f kj5 l0).bind fun t441 => (if (t440 == t441) = true then ((avocetref03_Ints.f kj5 bt410.1 bt414.1).bind fun t442 => (if t442 = true then (if (bt410.2 == bt414.2) = true then (if (strOfNums bt418.1).toList = (strOfNums bt422.1).toList then (if (bt418.2 == bt422.2) = true then (if bt426.1.toList = bt429.1.toList then (if bt426.2.1 = bt429.2.1 then (if bt426.2.2 = bt429.2.2 then (if (strOfNums bt432.1).toList = (strOfNums bt436.1).toList then (some (bt432.2 == bt436.2)) else (some false)) else (some false)) else (some false)) else (some false)) else (some false)) else (some false)) else (some false)) else (some false))) else (some false)))) else (some false)))))))))) = some r := by rw [if_neg (show ¬ (false = true) by decide)] at H; exact H
        clear H
        have H := H1
        clear H1
        replace H := Option.bind_eq_some_iff.mp H
        obtain ⟨⟨t410, t411⟩, A110, H⟩ := H
        replace H : ((avocetref03_Runes.f kj5 l0).bind fun bt414 => ((utf_FromRunes.f kj5 l1).bind fun bt418 => ((avocetref03_FromRunes.f kj5 l1).bind fun bt422 => ((utf_Name.f l0 a2).bind fun bt426 => ((avocetref03_Name.f kj5 l0 a2).bind fun bt429 => ((utf_Lay.f kj5 l0 a3).bind fun bt432 => ((avocetref03_Lay.f kj5 l0 a3).bind fun bt436 => (if t409 = true then ((utf_Valid.f l0).bind fun t440 => ((avocetref03_Valid.f kj5 l0).bind fun t441 => (if (t440 == t441) = true then ((avocetref03_Ints.f kj5 t410 bt414.1).bind fun t442 => (if t442 = true then (if (t411 == bt414.2) = true then (if (strOfNums bt418.1).toList = (strOfNums bt422.1).toList then (if (bt418.2 == bt422.2) = true then (if bt426.1.toList = bt429.1.toList then (if bt426.2.1 = bt429.2.1 then (if bt426.2.2 = bt429.2.2 then (if (strOfNums bt432.1).toList = (strOfNums bt436.1).toList then (some (bt432.2 == bt436.2)) else (some false)) else (some false)) else (some false)) else (some false)) else (some false)) else (some false)) else (some false)) else (some false))) else (some false)))) else (some false))))))))) = some r := H
        have A11 := Aside0.mk A110
        clear A110
        replace H := Option.bind_eq_some_iff.mp H
        obtain ⟨⟨t414, t415⟩, A120, H⟩ := H
        replace H : ((utf_FromRunes.f kj5 l1).bind fun bt418 => ((avocetref03_FromRunes.f kj5 l1).bind fun bt422 => ((utf_Name.f l0 a2).bind fun bt426 => ((avocetref03_Name.f kj5 l0 a2).bind fun bt429 => ((utf_Lay.f kj5 l0 a3).bind fun bt432 => ((avocetref03_Lay.f kj5 l0 a3).bind fun bt436 => (if t409 = true then ((utf_Valid.f l0).bind fun t440 => ((avocetref03_Valid.f kj5 l0).bind fun t441 => (if (t440 == t441) = true then ((avocetref03_Ints.f kj5 t410 t414).bind fun t442 => (if t442 = true then (if (t411 == t415) = true then (if (strOfNums bt418.1).toList = (strOfNums bt422.1).toList then (if (bt418.2 == bt422.2) = true then (if bt426.1.toList = bt429.1.toList then (if bt426.2.1 = bt429.2.1 then (if bt426.2.2 = bt429.2.2 then (if (strOfNums bt432.1).toList = (strOfNums bt436.1).toList then (some (bt432.2 == bt436.2)) else (some false)) else (some false)) else (some false)) else (some false)) else (some false)) else (some false)) else (some false)) else (some false))) else (some false)))) else (some false)))))))) = some r := H
        have A12 := Aside0.mk A120
        clear A120
        replace H := Option.bind_eq_some_iff.mp H
        obtain ⟨⟨t418, t419⟩, A130, H⟩ := H
        replace H : ((avocetref03_FromRunes.f kj5 l1).bind fun bt422 => ((utf_Name.f l0 a2).bind fun bt426 => ((avocetref03_Name.f kj5 l0 a2).bind fun bt429 => ((utf_Lay.f kj5 l0 a3).bind fun bt432 => ((avocetref03_Lay.f kj5 l0 a3).bind fun bt436 => (if t409 = true then ((utf_Valid.f l0).bind fun t440 => ((avocetref03_Valid.f kj5 l0).bind fun t441 => (if (t440 == t441) = true then ((avocetref03_Ints.f kj5 t410 t414).bind fun t442 => (if t442 = true then (if (t411 == t415) = true then (if (strOfNums t418).toList = (strOfNums bt422.1).toList then (if (t419 == bt422.2) = true then (if bt426.1.toList = bt429.1.toList then (if bt426.2.1 = bt429.2.1 then (if bt426.2.2 = bt429.2.2 then (if (strOfNums bt432.1).toList = (strOfNums bt436.1).toList then (some (bt432.2 == bt436.2)) else (some false)) else (some false)) else (some false)) else (some false)) else (some false)) else (some false)) else (some false)) else (some false))) else (some false)))) else (some false))))))) = some r := H
        have A13 := Aside0.mk A130
        clear A130
        replace H := Option.bind_eq_some_iff.mp H
        obtain ⟨⟨t422, t423⟩, A140, H⟩ := H
        replace H : ((utf_Name.f l0 a2).bind fun bt426 => ((avocetref03_Name.f kj5 l0 a2).bind fun bt429 => ((utf_Lay.f kj5 l0 a3).bind fun bt432 => ((avocetref03_Lay.f kj5 l0 a3).bind fun bt436 => (if t409 = true then ((utf_Valid.f l0).bind fun t440 => ((avocetref03_Valid.f kj5 l0).bind fun t441 => (if (t440 == t441) = true then ((avocetref03_Ints.f kj5 t410 t414).bind fun t442 => (if t442 = true then (if (t411 == t415) = true then (if (strOfNums t418).toList = (strOfNums t422).toList then (if (t419 == t423) = true then (if bt426.1.toList = bt429.1.toList then (if bt426.2.1 = bt429.2.1 then (if bt426.2.2 = bt429.2.2 then (if (strOfNums bt432.1).toList = (strOfNums bt436.1).toList then (some (bt432.2 == bt436.2)) else (some false)) else (some false)) else (some false)) else (some false)) else (some false)) else (some false)) else (some false)) else (some false))) else (some false)))) else (some false)))))) = some r := H
        have A14 := Aside0.mk A140
        clear A140
        replace H := Option.bind_eq_some_iff.mp H
        obtain ⟨⟨t426, t427, t428⟩, A150, H⟩ := H
        replace H : ((avocetref03_Name.f kj5 l0 a2).bind fun bt429 => ((utf_Lay.f kj5 l0 a3).bind fun bt432 => ((avocetref03_Lay.f kj5 l0 a3).bind fun bt436 => (if t409 = true then ((utf_Valid.f l0).bind fun t440 => ((avocetref03_Valid.f kj5 l0).bind fun t441 => (if (t440 == t441) = true then ((avocetref03_Ints.f kj5 t410 t414).bind fun t442 => (if t442 = true then (if (t411 == t415) = true then (if (strOfNums t418).toList = (strOfNums t422).toList then (if (t419 == t423) = true then (if t426.toList = bt429.1.toList then (if t427 = bt429.2.1 then (if t428 = bt429.2.2 then (if (strOfNums bt432.1).toList = (strOfNums bt436.1).toList then (some (bt432.2 == bt436.2)) else (some false)) else (some false)) else (some false)) else (some false)) else (some false)) else (some false)) else (some false)) else (some false))) else (some false)))) else (some false))))) = some r := H
        have A15 := Aside0.mk A150
        clear A150
        replace H := Option.bind_eq_some_iff.mp H
        obtain ⟨⟨t429, t430, t431⟩, A160, H⟩ := H
        replace H : ((utf_Lay.f kj5 l0 a3).bind fun bt432 => ((avocetref03_Lay.f kj5 l0 a3).bind fun bt436 => (if t409 = true then ((utf_Valid.f l0).bind fun t440 => ((avocetref03_Valid.f kj5 l0).bind fun t441 => (if (t440 == t441) = true then ((avocetref03_Ints.f kj5 t410 t414).bind fun t442 => (if t442 = true then (if (t411 == t415) = true then (if (strOfNums t418).toList = (strOfNums t422).toList then (if (t419 == t423) = true then (if t426.toList = t429.toList then (if t427 = t430 then (if t428 = t431 then (if (strOfNums bt432.1).toList = (strOfNums bt436.1).toList then (some (bt432.2 == bt436.2)) else (some false)) else (some false)) else (some false)) else (some false)) else (some false)) else (some false)) else (some false)) else (some false))) else (some false)))) else (some false)))) = some r := H
        have A16 := Aside0.mk A160
        clear A160
        replace H := Option.bind_eq_some_iff.mp H
        obtain ⟨⟨t432, t433⟩, A170, H⟩ := H
        replace H : ((avocetref03_Lay.f kj5 l0 a3).bind fun bt436 => (if t409 = true then ((utf_Valid.f l0).bind fun t440 => ((avocetref03_Valid.f kj5 l0).bind fun t441 => (if (t440 == t441) = true then ((avocetref03_Ints.f kj5 t410 t414).bind fun t442 => (if t442 = true then (if (t411 == t415) = true then (if (strOfNums t418).toList = (strOfNums t422).toList then (if (t419 == t423) = true then (if t426.toList = t429.toList then (if t427 = t430 then (if t428 = t431 then (if (strOfNums t432).toList = (strOfNums bt436.1).toList then (some (t433 == bt436.2)) else (some false)) else (some false)) else (some false)) else (some false)) else (some false)) else (some false)) else (some false)) else (some false))) else (some false)))) else (some false))) = some r := H
        have A17 := Aside0.mk A170
        clear A170
        replace H := Option.bind_eq_some_iff.mp H
        obtain ⟨⟨t436, t437⟩, A180, H⟩ := H
        replace H : (if t409 = true then ((utf_Valid.f l0).bind fun t440 => ((avocetref03_Valid.f kj5 l0).bind fun t441 => (if (t440 == t441) = true then ((avocetref03_Ints.f kj5 t410 t414).bind fun t442 => (if t442 = true then (if (t411 == t415) = true then (if (strOfNums t418).toList = (strOfNums t422).toList then (if (t419 == t423) = true then (if t426.toList = t429.toList then (if t427 = t430 then (if t428 = t431 then (if (strOfNums t432).toList = (strOfNums t436).toList then (some (t433 == t437)) else (some false)) else (some false)) else (some false)) else (some false)) else (some false)) else (some false)) else (some false)) else (some false))) else (some false)))) else (some false)) = some r := H
        have A18 := Aside0.mk A180
        clear A180
        by_cases c19 : t409 = true
        · subst c19
          have H1 : ((utf_Valid.f l0).bind fun t440 => ((avocetref03_Valid.f kj5 l0).bind fun t441 => (if (t440 == t441) = true then ((avocetref03_Ints.f kj5 t410 t414).bind fun t442 => (if t442 = true then (if (t411 == t415) = true then (if (strOfNums t418).toList = (strOfNums t422).toList then (if (t419 == t423) = true then (if t426.toList = t429.toList then (if t427 = t430 then (if t428 = t431 then (if (strOfNums t432).toList = (strOfNums t436).toList then (some (t433 == t437)) else (some false)) else (some false)) else (some false)) else (some false)) else (some false)) else (some false)) else (some false)) else (some false))) else (some false)))) = some r := by rw [if_pos rfl] at H; exact H
          clear H
          have H := H1
          clear H1
          replace H := Option.bind_eq_some_iff.mp H
          obtain ⟨t440, A200, H⟩ := H
          replace H : ((avocetref03_Valid.f kj5 l0).bind fun t441 => (if (t440 == t441) = true then ((avocetref03_Ints.f kj5 t410 t414).bind fun t442 => (if t442 = true then (if (t411 == t415) = true then (if (strOfNums t418).toList = (strOfNums t422).toList then (if (t419 == t423) = true then (if t426.toList = t429.toList then (if t427 = t430 then (if t428 = t431 then (if (strOfNums t432).toList = (strOfNums t436).toList then (some (t433 == t437)) else (some false)) else (some false)) else (some false)) else (some false)) else (some false)) else (some false)) else (some false)) else (some false))) else (some false))) = some r := H
          have A20 := Aside0.mk A200
          clear A200
          replace H := Option.bind_eq_some_iff.mp H
          obtain ⟨t441, A210, H⟩ := H
          replace H : (if (t440 == t441) = true then ((avocetref03_Ints.f kj5 t410 t414).bind fun t442 => (if t442 = true then (if (t411 == t415) = true then (if (strOfNums t418).toList = (strOfNums t422).toList then (if (t419 == t423) = true then (if t426.toList = t429.toList then (if t427 = t430 then (if t428 = t431 then (if (strOfNums t432).toList = (strOfNums t436).toList then (some (t433 == t437)) else (some false)) else (some false)) else (some false)) else (some false)) else (some false)) else (some false)) else (some false)) else (some false))) else (some false)) = some r := H
          have A21 := Aside0.mk A210
          clear A210
          by_cases c22 : (t440 == t441) = true
          · rw [if_pos c22] at H
            have c22b0 : (t440 == t441) = true := c22
            (try (have c22b1 : decide (t440 = t441) = true := by simpa using c22))
            (try (have c22b2 : (t440 == t441) = true := by simpa using c22))
            clear c22
            replace H := Option.bind_eq_some_iff.mp H
            obtain ⟨t442, A230, H⟩ := H
            replace H : (if t442 = true then (if (t411 == t415) = true then (if (strOfNums t418).toList = (strOfNums t422).toList then (if (t419 == t423) = true then (if t426.toList = t429.toList then (if t427 = t430 then (if t428 = t431 then (if (strOfNums t432).toList = (strOfNums t436).toList then (some (t433 == t437)) else (some false)) else (some false)) else (some false)) else (some false)) else (some false)) else (some false)) else (some false)) else (some false)) = some r := H
            have A23 := Aside0.mk A230
            clear A230
            by_cases c24 : t442 = true
            · subst c24
              have H1 : (if (t411 == t415) = true then (if (strOfNums t418).toList = (strOfNums t422).toList then (if (t419 == t423) = true then (if t426.toList = t429.toList then (if t427 = t430 then (if t428 = t431 then (if (strOfNums t432).toList = (strOfNums t436).toList then (some (t433 == t437)) else (some false)) else (some false)) else (some false)) else (some false)) else (some false)) else (some false)) else (some false)) = some r := by rw [if_pos rfl] at H; exact H
              clear H
              have H := H1
              clear H1
              by_cases c25 : (t411 == t415) = true
              · rw [if_pos c25] at H
                have c25b0 : (t411 == t415) = true := c25
                (try (have c25b1 : decide (t411 = t415) = true := by simpa using c25))
                (try (have c25b2 : (t411 == t415) = true := by simpa using c25))
                clear c25
                by_cases c26 : (strOfNums t418).toList = (strOfNums t422).toList
                · rw [if_pos c26] at H
                  have c26b0 : ((strOfNums t418).toList == (strOfNums t422).toList) = true := beq_iff_eq.mpr c26
                  have c26b1 : ((strOfNums t418).toList != (strOfNums t422).toList) = false := bne_eq_false_iff_eq.mpr c26
                  clear c26
                  by_cases c27 : (t419 == t423) = true
                  · rw [if_pos c27] at H
                    have c27b0 : (t419 == t423) = true := c27
                    (try (have c27b1 : decide (t419 = t423) = true := by simpa using c27))
                    (try (have c27b2 : (t419 == t423) = true := by simpa using c27))
                    clear c27
                    by_cases c28 : t426.toList = t429.toList
                    · rw [if_pos c28] at H
                      have c28b0 : (t426.toList == t429.toList) = true := beq_iff_eq.mpr c28
                      have c28b1 : (t426.toList != t429.toList) = false := bne_eq_false_iff_eq.mpr c28
                      clear c28
                      by_cases c29 : t427 = t430
                      · rw [if_pos c29] at H
                        have c29b0 : (t427 == t430) = true := beq_iff_eq.mpr c29
                        have c29b1 : (t427 != t430) = false := bne_eq_false_iff_eq.mpr c29
                        clear c29
                        by_cases c30 : t428 = t431
                        · rw [if_pos c30] at H
                          have c30b0 : (t428 == t431) = true := beq_iff_eq.mpr c30
                          have c30b1 : (t428 != t431) = false := bne_eq_false_iff_eq.mpr c30
                          clear c30
                          by_cases c31 : (strOfNums t432).toList = (strOfNums t436).toList
                          · rw [if_pos c31] at H
                            have c31b0 : ((strOfNums t432).toList == (strOfNums t436).toList) = true := beq_iff_eq.mpr c31
                            have c31b1 : ((strOfNums t432).toList != (strOfNums t436).toList) = false := bne_eq_false_iff_eq.mpr c31
                            clear c31
                            obtain rfl := Option.some.inj H
                            go_wp2_with (first | ((with_reducible refine gate_callee (f := 10) rfl ?_); refine goesL_ (some 45) rfl rfl Tryd.func10 (by kernel_rfl) rfl #[.slice A0 l0.length c0] rfl (by (try simp only [List.map_toArray, List.map_cons, List.map_nil]); first | done | rfl | (simp only [List.length_drop, List.length_take]; rfl)) ?_; (with_reducible refine (utf_Runes.calls _ _ l0 t410 t411 _ ?side3 ?side1 ?side2 A11.out).mono ?_); (case side1 => repeat (first | exact (Kd.C_below HR0.out HB.out) | (with_reducible refine Kd.C_alloc ?_ _) | (with_reducible refine Kd.C_drewN ?_ _) | (with_reducible refine Kd.C_drew ?_))); (case side2 => exact HC0.out); (case side3 => first | exact Globs.below HG.out HB.out | exact Globs.below HG.out (by repeat (first | (with_reducible first | exact HB.out | apply below_alloc | apply pw_below_drewN | apply below_drew1) | exact HB.out)) | (repeat (first | exact HG.out | (with_reducible refine Globs.alloc ?_ _) | (with_reducible refine Globs.drewN ?_ _) | (with_reducible refine Globs.drew ?_)))); rintro e w32 ⟨v412, rfl, ho0, hb⟩; refine ⟨_, rfl, ?_⟩; have n0_ := Aside0.mk (Kd.R_lower ho0 (below_size (by repeat (first | (with_reducible first | exact HB.out | apply below_alloc | apply pw_below_drewN | apply below_drew1) | exact HB.out)))); have n1_ := Aside0.mk (below_step (by repeat (first | (with_reducible first | exact HB.out | apply below_alloc | apply pw_below_drewN | apply below_drew1) | exact HB.out)) hb); clear HB; have HO413 := n0_; have HB := n1_; clear n0_ n1_; (try clear hb); (try clear hb2); (try clear hk); (try clear hi); (try clear ho0)) | ((with_reducible refine gate_callee (f := 16) rfl ?_); refine goesL_ (some 50) rfl rfl Tryd.func16 (by kernel_rfl) rfl #[.slice A0 l0.length c0] rfl (by (try simp only [List.map_toArray, List.map_cons, List.map_nil]); first | done | rfl | (simp only [List.length_drop, List.length_take]; rfl)) ?_; (with_reducible refine (avocetref03_Runes.calls kj5 _ _ l0 t414 t415 _ ?side1 ?side2 A12.out).mono ?_); (case side1 => repeat (first | exact (Kd.C_below HR0.out HB.out) | (with_reducible refine Kd.C_alloc ?_ _) | (with_reducible refine Kd.C_drewN ?_ _) | (with_reducible refine Kd.C_drew ?_))); (case side2 => exact HC0.out); rintro e w33 ⟨v416, rfl, ho0, hb⟩; refine ⟨_, rfl, ?_⟩; have n0_ := Aside0.mk (Kd.R_elder' (by (with_reducible repeat (first | apply Kd.R_alloc | apply Kd.R_drewN | apply Kd.R_drew)); exact HO413.out) (Kd.R_base ho0) hb); have n1_ := Aside0.mk (Kd.R_lower (Kd.R_new' ho0 (Kd.R_lt (by (with_reducible repeat (first | apply Kd.R_alloc | apply Kd.R_drewN | apply Kd.R_drew)); exact HO413.out))) (below_size (by repeat (first | (with_reducible first | exact HB.out | apply below_alloc | apply pw_below_drewN | apply below_drew1) | exact HB.out)))); have n2_ := Aside0.mk (below_step (by repeat (first | (with_reducible first | exact HB.out | apply below_alloc | apply pw_below_drewN | apply below_drew1) | exact HB.out)) hb); clear HO413; clear HB; have HO413 := n0_; have HO417 := n1_; have HB := n2_; clear n0_ n1_ n2_; (try clear hb); (try clear hb2); (try clear hk); (try clear hi); (try clear ho0)) | ((with_reducible refine gate_callee (f := 12) rfl ?_); refine goesL_ (some 55) rfl rfl Tryd.func12 (by kernel_rfl) rfl #[.slice A1 l1.length c1] rfl (by (try simp only [List.map_toArray, List.map_cons, List.map_nil]); first | done | rfl | (simp only [List.length_drop, List.length_take]; rfl)) ?_; (with_reducible refine (utf_FromRunes.calls kj5 _ _ l1 t418 t419 _ ?side1 ?side2 A13.out).mono ?_); (case side1 => repeat (first | exact (Kd.C_below HR1.out HB.out) | (with_reducible refine Kd.C_alloc ?_ _) | (with_reducible refine Kd.C_drewN ?_ _) | (with_reducible refine Kd.C_drew ?_))); (case side2 => exact HC1.out); rintro e w34 ⟨v420, rfl, ho0, hb⟩; refine ⟨_, rfl, ?_⟩; have n0_ := Aside0.mk (Kd.R_below (by (with_reducible repeat (first | apply Kd.R_alloc | apply Kd.R_drewN | apply Kd.R_drew)); exact HO413.out) hb); have n1_ := Aside0.mk (Kd.R_below (by (with_reducible repeat (first | apply Kd.R_alloc | apply Kd.R_drewN | apply Kd.R_drew)); exact HO417.out) hb); have n2_ := Aside0.mk (Kd.R_lower ho0 (below_size (by repeat (first | (with_reducible first | exact HB.out | apply below_alloc | apply pw_below_drewN | apply below_drew1) | exact HB.out)))); have n3_ := Aside0.mk (below_step (by repeat (first | (with_reducible first | exact HB.out | apply below_alloc | apply pw_below_drewN | apply below_drew1) | exact HB.out)) hb); clear HO413; clear HO417; clear HB; have HO413 := n0_; have HO417 := n1_; have HO421 := n2_; have HB := n3_; clear n0_ n1_ n2_ n3_; (try clear hb); (try clear hb2); (try clear hk); (try clear hi); (try clear ho0)) | ((with_reducible refine gate_callee (f := 17) rfl ?_); refine goesL_ (some 60) rfl rfl Tryd.func17 (by kernel_rfl) rfl #[.slice A1 l1.length c1] rfl (by (try simp only [List.map_toArray, List.map_cons, List.map_nil]); first | done | rfl | (simp only [List.length_drop, List.length_take]; rfl)) ?_; (with_reducible refine (avocetref03_FromRunes.calls kj5 _ _ l1 t422 t423 _ ?side1 ?side2 A14.out).mono ?_); (case side1 => repeat (first | exact (Kd.C_below HR1.out HB.out) | (with_reducible refine Kd.C_alloc ?_ _) | (with_reducible refine Kd.C_drewN ?_ _) | (with_reducible refine Kd.C_drew ?_))); (case side2 => exact HC1.out); rintro e w35 ⟨v424, rfl, ho0, hb⟩; refine ⟨_, rfl, ?_⟩; have n0_ := Aside0.mk (Kd.R_below (by (with_reducible repeat (first | apply Kd.R_alloc | apply Kd.R_drewN | apply Kd.R_drew)); exact HO413.out) hb); have n1_ := Aside0.mk (Kd.R_below (by (with_reducible repeat (first | apply Kd.R_alloc | apply Kd.R_drewN | apply Kd.R_drew)); exact HO417.out) hb); have n2_ := Aside0.mk (Kd.R_elder' (by (with_reducible repeat (first | apply Kd.R_alloc | apply Kd.R_drewN | apply Kd.R_drew)); exact HO421.out) (Kd.R_base ho0) hb); have n3_ := Aside0.mk (Kd.R_lower (Kd.R_new' ho0 (Kd.R_lt (by (with_reducible repeat (first | apply Kd.R_alloc | apply Kd.R_drewN | apply Kd.R_drew)); exact HO421.out))) (below_size (by repeat (first | (with_reducible first | exact HB.out | apply below_alloc | apply pw_below_drewN | apply below_drew1) | exact HB.out)))); have n4_ := Aside0.mk (below_step (by repeat (first | (with_reducible first | exact HB.out | apply below_alloc | apply pw_below_drewN | apply below_drew1) | exact HB.out)) hb); clear HO413; clear HO417; clear HO421; clear HB; have HO413 := n0_; have HO417 := n1_; have HO421 := n2_; have HO425 := n3_; have HB := n4_; clear n0_ n1_ n2_ n3_ n4_; (try clear hb); (try clear hb2); (try clear hk); (try clear hi); (try clear ho0)) | ((with_reducible refine gate_callee (f := 15) rfl ?_); refine goesL_ (some 66) rfl rfl Tryd.func15 (by kernel_rfl) rfl #[.slice A0 l0.length c0, .int .i64 a2] rfl (by (try simp only [List.map_toArray, List.map_cons, List.map_nil]); first | done | rfl | (simp only [List.length_drop, List.length_take]; rfl)) ?_; (with_reducible refine (utf_Name.calls _ _ l0 a2 t426 t427 t428 _ ?side3 ?side1 ?side2 A15.out).mono ?_); (case side1 => repeat (first | exact (Kd.C_below HR0.out HB.out) | (with_reducible refine Kd.C_alloc ?_ _) | (with_reducible refine Kd.C_drewN ?_ _) | (with_reducible refine Kd.C_drew ?_))); (case side2 => exact HC0.out); (case side3 => first | exact Globs.below HG.out HB.out | exact Globs.below HG.out (by repeat (first | (with_reducible first | exact HB.out | apply below_alloc | apply pw_below_drewN | apply below_drew1) | exact HB.out)) | (repeat (first | exact HG.out | (with_reducible refine Globs.alloc ?_ _) | (with_reducible refine Globs.drewN ?_ _) | (with_reducible refine Globs.drew ?_)))); rintro e w36 ⟨rfl, hb⟩; refine ⟨_, rfl, ?_⟩; have n0_ := Aside0.mk (Kd.R_below (by (with_reducible repeat (first | apply Kd.R_alloc | apply Kd.R_drewN | apply Kd.R_drew)); exact HO413.out) hb); have n1_ := Aside0.mk (Kd.R_below (by (with_reducible repeat (first | apply Kd.R_alloc | apply Kd.R_drewN | apply Kd.R_drew)); exact HO417.out) hb); have n2_ := Aside0.mk (Kd.R_below (by (with_reducible repeat (first | apply Kd.R_alloc | apply Kd.R_drewN | apply Kd.R_drew)); exact HO421.out) hb); have n3_ := Aside0.mk (Kd.R_below (by (with_reducible repeat (first | apply Kd.R_alloc | apply Kd.R_drewN | apply Kd.R_drew)); exact HO425.out) hb); have n4_ := Aside0.mk (below_step (by repeat (first | (with_reducible first | exact HB.out | apply below_alloc | apply pw_below_drewN | apply below_drew1) | exact HB.out)) hb); clear HO413; clear HO417; clear HO421; clear HO425; clear HB; have HO413 := n0_; have HO417 := n1_; have HO421 := n2_; have HO425 := n3_; have HB := n4_; clear n0_ n1_ n2_ n3_ n4_; (try clear hb); (try clear hb2); (try clear hk); (try clear hi)) | ((with_reducible refine gate_callee (f := 18) rfl ?_); refine goesL_ (some 73) rfl rfl Tryd.func18 (by kernel_rfl) rfl #[.slice A0 l0.length c0, .int .i64 a2] rfl (by (try simp only [List.map_toArray, List.map_cons, List.map_nil]); first | done | rfl | (simp only [List.length_drop, List.length_take]; rfl)) ?_; (with_reducible refine (avocetref03_Name.calls kj5 _ _ l0 a2 t429 t430 t431 _ ?side1 ?side2 A16.out).mono ?_); (case side1 => repeat (first | exact (Kd.C_below HR0.out HB.out) | (with_reducible refine Kd.C_alloc ?_ _) | (with_reducible refine Kd.C_drewN ?_ _) | (with_reducible refine Kd.C_drew ?_))); (case side2 => exact HC0.out); rintro e w37 ⟨rfl, hb⟩; refine ⟨_, rfl, ?_⟩; have n0_ := Aside0.mk (Kd.R_below (by (with_reducible repeat (first | apply Kd.R_alloc | apply Kd.R_drewN | apply Kd.R_drew)); exact HO413.out) hb); have n1_ := Aside0.mk (Kd.R_below (by (with_reducible repeat (first | apply Kd.R_alloc | apply Kd.R_drewN | apply Kd.R_drew)); exact HO417.out) hb); have n2_ := Aside0.mk (Kd.R_below (by (with_reducible repeat (first | apply Kd.R_alloc | apply Kd.R_drewN | apply Kd.R_drew)); exact HO421.out) hb); have n3_ := Aside0.mk (Kd.R_below (by (with_reducible repeat (first | apply Kd.R_alloc | apply Kd.R_drewN | apply Kd.R_drew)); exact HO425.out) hb); have n4_ := Aside0.mk (below_step (by repeat (first | (with_reducible first | exact HB.out | apply below_alloc | apply pw_below_drewN | apply below_drew1) | exact HB.out)) hb); clear HO413; clear HO417; clear HO421; clear HO425; clear HB; have HO413 := n0_; have HO417 := n1_; have HO421 := n2_; have HO425 := n3_; have HB := n4_; clear n0_ n1_ n2_ n3_ n4_; (try clear hb); (try clear hb2); (try clear hk); (try clear hi)) | ((with_reducible refine gate_callee (f := 14) rfl ?_); refine goesL_ (some 80) rfl rfl Tryd.func14 (by kernel_rfl) rfl #[.slice A0 l0.length c0, .string a3] rfl (by (try simp only [List.map_toArray, List.map_cons, List.map_nil]); first | done | rfl | (simp only [List.length_drop, List.length_take]; rfl)) ?_; (with_reducible refine (utf_Lay.calls kj5 _ _ l0 a3 t432 t433 _ ?side3 ?side1 ?side2 A17.out).mono ?_); (case side1 => repeat (first | exact (Kd.C_below HR0.out HB.out) | (with_reducible refine Kd.C_alloc ?_ _) | (with_reducible refine Kd.C_drewN ?_ _) | (with_reducible refine Kd.C_drew ?_))); (case side2 => exact HC0.out); (case side3 => first | exact Globs.below HG.out HB.out | exact Globs.below HG.out (by repeat (first | (with_reducible first | exact HB.out | apply below_alloc | apply pw_below_drewN | apply below_drew1) | exact HB.out)) | (repeat (first | exact HG.out | (with_reducible refine Globs.alloc ?_ _) | (with_reducible refine Globs.drewN ?_ _) | (with_reducible refine Globs.drew ?_)))); rintro e w38 ⟨v434, rfl, ho0, hb⟩; refine ⟨_, rfl, ?_⟩; have n0_ := Aside0.mk (Kd.R_below (by (with_reducible repeat (first | apply Kd.R_alloc | apply Kd.R_drewN | apply Kd.R_drew)); exact HO413.out) hb); have n1_ := Aside0.mk (Kd.R_below (by (with_reducible repeat (first | apply Kd.R_alloc | apply Kd.R_drewN | apply Kd.R_drew)); exact HO417.out) hb); have n2_ := Aside0.mk (Kd.R_elder' (by (with_reducible repeat (first | apply Kd.R_alloc | apply Kd.R_drewN | apply Kd.R_drew)); exact HO421.out) (Kd.R_base ho0) hb); have n3_ := Aside0.mk (Kd.R_elder' (by (with_reducible repeat (first | apply Kd.R_alloc | apply Kd.R_drewN | apply Kd.R_drew)); exact HO425.out) (Kd.R_base ho0) hb); have n4_ := Aside0.mk (Kd.R_lower (Kd.R_new' (Kd.R_new' ho0 (Kd.R_lt (by (with_reducible repeat (first | apply Kd.R_alloc | apply Kd.R_drewN | apply Kd.R_drew)); exact HO421.out))) (Kd.R_lt (by (with_reducible repeat (first | apply Kd.R_alloc | apply Kd.R_drewN | apply Kd.R_drew)); exact HO425.out))) (below_size (by repeat (first | (with_reducible first | exact HB.out | apply below_alloc | apply pw_below_drewN | apply below_drew1) | exact HB.out)))); have n5_ := Aside0.mk (below_step (by repeat (first | (with_reducible first | exact HB.out | apply below_alloc | apply pw_below_drewN | apply below_drew1) | exact HB.out)) hb); clear HO413; clear HO417; clear HO421; clear HO425; clear HB; have HO413 := n0_; have HO417 := n1_; have HO421 := n2_; have HO425 := n3_; have HO435 := n4_; have HB := n5_; clear n0_ n1_ n2_ n3_ n4_ n5_; (try clear hb); (try clear hb2); (try clear hk); (try clear hi); (try clear ho0)) | ((with_reducible refine gate_callee (f := 19) rfl ?_); refine goesL_ (some 86) rfl rfl Tryd.func19 (by kernel_rfl) rfl #[.slice A0 l0.length c0, .string a3] rfl (by (try simp only [List.map_toArray, List.map_cons, List.map_nil]); first | done | rfl | (simp only [List.length_drop, List.length_take]; rfl)) ?_; (with_reducible refine (avocetref03_Lay.calls kj5 _ _ l0 a3 t436 t437 _ ?side1 ?side2 A18.out).mono ?_); (case side1 => repeat (first | exact (Kd.C_below HR0.out HB.out) | (with_reducible refine Kd.C_alloc ?_ _) | (with_reducible refine Kd.C_drewN ?_ _) | (with_reducible refine Kd.C_drew ?_))); (case side2 => exact HC0.out); rintro e w39 ⟨v438, rfl, ho0, hb⟩; refine ⟨_, rfl, ?_⟩; have n0_ := Aside0.mk (Kd.R_below (by (with_reducible repeat (first | apply Kd.R_alloc | apply Kd.R_drewN | apply Kd.R_drew)); exact HO413.out) hb); have n1_ := Aside0.mk (Kd.R_below (by (with_reducible repeat (first | apply Kd.R_alloc | apply Kd.R_drewN | apply Kd.R_drew)); exact HO417.out) hb); have n2_ := Aside0.mk (Kd.R_elder' (by (with_reducible repeat (first | apply Kd.R_alloc | apply Kd.R_drewN | apply Kd.R_drew)); exact HO421.out) (Kd.R_base ho0) hb); have n3_ := Aside0.mk (Kd.R_elder' (by (with_reducible repeat (first | apply Kd.R_alloc | apply Kd.R_drewN | apply Kd.R_drew)); exact HO425.out) (Kd.R_base ho0) hb); have n4_ := Aside0.mk (Kd.R_elder' (by (with_reducible repeat (first | apply Kd.R_alloc | apply Kd.R_drewN | apply Kd.R_drew)); exact HO435.out) (Kd.R_base ho0) hb); have n5_ := Aside0.mk (Kd.R_lower (Kd.R_new' (Kd.R_new' (Kd.R_new' ho0 (Kd.R_lt (by (with_reducible repeat (first | apply Kd.R_alloc | apply Kd.R_drewN | apply Kd.R_drew)); exact HO421.out))) (Kd.R_lt (by (with_reducible repeat (first | apply Kd.R_alloc | apply Kd.R_drewN | apply Kd.R_drew)); exact HO425.out))) (Kd.R_lt (by (with_reducible repeat (first | apply Kd.R_alloc | apply Kd.R_drewN | apply Kd.R_drew)); exact HO435.out))) (below_size (by repeat (first | (with_reducible first | exact HB.out | apply below_alloc | apply pw_below_drewN | apply below_drew1) | exact HB.out)))); have n6_ := Aside0.mk (below_step (by repeat (first | (with_reducible first | exact HB.out | apply below_alloc | apply pw_below_drewN | apply below_drew1) | exact HB.out)) hb); clear HO413; clear HO417; clear HO421; clear HO425; clear HO435; clear HB; have HO413 := n0_; have HO417 := n1_; have HO421 := n2_; have HO425 := n3_; have HO435 := n4_; have HO439 := n5_; have HB := n6_; clear n0_ n1_ n2_ n3_ n4_ n5_ n6_; (try clear hb); (try clear hb2); (try clear hk); (try clear hi); (try clear ho0)) | (go_at_call 13; (with_reducible refine (utf_Valid.calls _ _ l0 t440 _ ?side3 ?side1 ?side2 A20.out).mono ?_); (case side1 => repeat (first | exact (Kd.C_below HR0.out HB.out) | (with_reducible refine Kd.C_alloc ?_ _) | (with_reducible refine Kd.C_drewN ?_ _) | (with_reducible refine Kd.C_drew ?_))); (case side2 => exact HC0.out); (case side3 => first | exact Globs.below HG.out HB.out | exact Globs.below HG.out (by repeat (first | (with_reducible first | exact HB.out | apply below_alloc | apply pw_below_drewN | apply below_drew1) | exact HB.out)) | (repeat (first | exact HG.out | (with_reducible refine Globs.alloc ?_ _) | (with_reducible refine Globs.drewN ?_ _) | (with_reducible refine Globs.drew ?_)))); rintro e w40 ⟨rfl, hb⟩; have n0_ := Aside0.mk (Kd.R_below (by (with_reducible repeat (first | apply Kd.R_alloc | apply Kd.R_drewN | apply Kd.R_drew)); exact HO413.out) hb); have n1_ := Aside0.mk (Kd.R_below (by (with_reducible repeat (first | apply Kd.R_alloc | apply Kd.R_drewN | apply Kd.R_drew)); exact HO417.out) hb); have n2_ := Aside0.mk (Kd.R_below (by (with_reducible repeat (first | apply Kd.R_alloc | apply Kd.R_drewN | apply Kd.R_drew)); exact HO421.out) hb); have n3_ := Aside0.mk (Kd.R_below (by (with_reducible repeat (first | apply Kd.R_alloc | apply Kd.R_drewN | apply Kd.R_drew)); exact HO425.out) hb); have n4_ := Aside0.mk (Kd.R_below (by (with_reducible repeat (first | apply Kd.R_alloc | apply Kd.R_drewN | apply Kd.R_drew)); exact HO435.out) hb); have n5_ := Aside0.mk (Kd.R_below (by (with_reducible repeat (first | apply Kd.R_alloc | apply Kd.R_drewN | apply Kd.R_drew)); exact HO439.out) hb); have n6_ := Aside0.mk (below_step (by repeat (first | (with_reducible first | exact HB.out | apply below_alloc | apply pw_below_drewN | apply below_drew1) | exact HB.out)) hb); clear HO413; clear HO417; clear HO421; clear HO425; clear HO435; clear HO439; clear HB; have HO413 := n0_; have HO417 := n1_; have HO421 := n2_; have HO425 := n3_; have HO435 := n4_; have HO439 := n5_; have HB := n6_; clear n0_ n1_ n2_ n3_ n4_ n5_ n6_; (try clear hb); (try clear hb2); (try clear hk); (try clear hi)) | (go_at_call 20; (with_reducible refine (avocetref03_Valid.calls kj5 _ _ l0 t441 _ ?side1 ?side2 A21.out).mono ?_); (case side1 => repeat (first | exact (Kd.C_below HR0.out HB.out) | (with_reducible refine Kd.C_alloc ?_ _) | (with_reducible refine Kd.C_drewN ?_ _) | (with_reducible refine Kd.C_drew ?_))); (case side2 => exact HC0.out); rintro e w41 ⟨rfl, hb⟩; have n0_ := Aside0.mk (Kd.R_below (by (with_reducible repeat (first | apply Kd.R_alloc | apply Kd.R_drewN | apply Kd.R_drew)); exact HO413.out) hb); have n1_ := Aside0.mk (Kd.R_below (by (with_reducible repeat (first | apply Kd.R_alloc | apply Kd.R_drewN | apply Kd.R_drew)); exact HO417.out) hb); have n2_ := Aside0.mk (Kd.R_below (by (with_reducible repeat (first | apply Kd.R_alloc | apply Kd.R_drewN | apply Kd.R_drew)); exact HO421.out) hb); have n3_ := Aside0.mk (Kd.R_below (by (with_reducible repeat (first | apply Kd.R_alloc | apply Kd.R_drewN | apply Kd.R_drew)); exact HO425.out) hb); have n4_ := Aside0.mk (Kd.R_below (by (with_reducible repeat (first | apply Kd.R_alloc | apply Kd.R_drewN | apply Kd.R_drew)); exact HO435.out) hb); have n5_ := Aside0.mk (Kd.R_below (by (with_reducible repeat (first | apply Kd.R_alloc | apply Kd.R_drewN | apply Kd.R_drew)); exact HO439.out) hb); have n6_ := Aside0.mk (below_step (by repeat (first | (with_reducible first | exact HB.out | apply below_alloc | apply pw_below_drewN | apply below_drew1) | exact HB.out)) hb); clear HO413; clear HO417; clear HO421; clear HO425; clear HO435; clear HO439; clear HB; have HO413 := n0_; have HO417 := n1_; have HO421 := n2_; have HO425 := n3_; have HO435 := n4_; have HO439 := n5_; have HB := n6_; clear n0_ n1_ n2_ n3_ n4_ n5_ n6_; (try clear hb); (try clear hb2); (try clear hk); (try clear hi); obtain ⟨Ao42, co42, eo42⟩ := Kd.R_slice HO413.out; subst eo42; obtain ⟨Ao43, co43, eo43⟩ := Kd.R_slice HO417.out; subst eo43) | (go_at_call 11; (with_reducible refine (avocetref03_Ints.calls kj5 _ _ t410 _ _ t414 true _ ?side1 ?side2 ?side3 ?side4 A23.out).mono ?_); (case side1 => repeat (first | exact (Kd.R_reads' HO413.out).2.2 | (with_reducible refine Kd.C_alloc ?_ _) | (with_reducible refine Kd.C_drewN ?_ _) | (with_reducible refine Kd.C_drew ?_))); (case side2 => exact (Kd.R_reads' HO413.out).2.1); (case side3 => repeat (first | exact (Kd.R_reads' HO417.out).2.2 | (with_reducible refine Kd.C_alloc ?_ _) | (with_reducible refine Kd.C_drewN ?_ _) | (with_reducible refine Kd.C_drew ?_))); (case side4 => exact (Kd.R_reads' HO417.out).2.1); rintro e w' ⟨rfl, ⟨nd, rfl⟩⟩; have hcv44 := own_string (P := Tryd.prog) Tryd.underlying22 Tryd.underlying5 Tryd.underlying9 (Kd.own_of_R HO421.out); have hcw44 := fun (n_ : Nat) => own_string (P := Tryd.prog) Tryd.underlying22 Tryd.underlying5 Tryd.underlying9 (Kd.own_of_R (Kd.R_drewN HO421.out n_)); have hcv45 := own_string (P := Tryd.prog) Tryd.underlying22 Tryd.underlying5 Tryd.underlying9 (Kd.own_of_R HO425.out); have hcw45 := fun (n_ : Nat) => own_string (P := Tryd.prog) Tryd.underlying22 Tryd.underlying5 Tryd.underlying9 (Kd.own_of_R (Kd.R_drewN HO425.out n_)); have hcv46 := own_string (P := Tryd.prog) Tryd.underlying22 Tryd.underlying5 Tryd.underlying9 (Kd.own_of_R HO435.out); have hcw46 := fun (n_ : Nat) => own_string (P := Tryd.prog) Tryd.underlying22 Tryd.underlying5 Tryd.underlying9 (Kd.own_of_R (Kd.R_drewN HO435.out n_)); have hcv47 := own_string (P := Tryd.prog) Tryd.underlying22 Tryd.underlying5 Tryd.underlying9 (Kd.own_of_R HO439.out); have hcw47 := fun (n_ : Nat) => own_string (P := Tryd.prog) Tryd.underlying22 Tryd.underlying5 Tryd.underlying9 (Kd.own_of_R (Kd.R_drewN HO439.out n_))))
                            go_ret
                            exact ⟨by first | rfl | (simp [errW_none, errW_some] <;> rfl) | (simp [*, errW_none, errW_some] <;> rfl), by repeat (first | (with_reducible first | exact HB.out | apply below_alloc | apply pw_below_drewN | apply below_drew1) | exact HB.out)⟩
                          · rw [if_neg c31] at H
                            have c31b0 : ((strOfNums t432).toList == (strOfNums t436).toList) = false := beq_eq_false_iff_ne.mpr c31
                            have c31b1 : ((strOfNums t432).toList != (strOfNums t436).toList) = true := bne_iff_ne.mpr c31
                            exact absurd ((Option.some.inj H).trans HRT_.out) (by decide)
                        · rw [if_neg c30] at H
                          have c30b0 : (t428 == t431) = false := beq_eq_false_iff_ne.mpr c30
                          have c30b1 : (t428 != t431) = true := bne_iff_ne.mpr c30
                          exact absurd ((Option.some.inj H).trans HRT_.out) (by decide)
                      · rw [if_neg c29] at H
                        have c29b0 : (t427 == t430) = false := beq_eq_false_iff_ne.mpr c29
                        have c29b1 : (t427 != t430) = true := bne_iff_ne.mpr c29
                        exact absurd ((Option.some.inj H).trans HRT_.out) (by decide)
                    · rw [if_neg c28] at H
                      have c28b0 : (t426.toList == t429.toList) = false := beq_eq_false_iff_ne.mpr c28
                      have c28b1 : (t426.toList != t429.toList) = true := bne_iff_ne.mpr c28
                      exact absurd ((Option.some.inj H).trans HRT_.out) (by decide)
                  · rw [if_neg c27] at H
                    have c27b0 : (t419 == t423) = false := by simpa using c27
                    (try (have c27b1 : decide (t419 = t423) = false := by simpa using c27))
                    (try (have c27b2 : (t419 == t423) = false := by simpa using c27))
                    (try (have c27b3 : ¬ (t419 = t423) := by simpa using c27))
                    clear c27
                    exact absurd ((Option.some.inj H).trans HRT_.out) (by decide)
                · rw [if_neg c26] at H
                  have c26b0 : ((strOfNums t418).toList == (strOfNums t422).toList) = false := beq_eq_false_iff_ne.mpr c26
                  have c26b1 : ((strOfNums t418).toList != (strOfNums t422).toList) = true := bne_iff_ne.mpr c26
                  exact absurd ((Option.some.inj H).trans HRT_.out) (by decide)
              · rw [if_neg c25] at H
                have c25b0 : (t411 == t415) = false := by simpa using c25
                (try (have c25b1 : decide (t411 = t415) = false := by simpa using c25))
                (try (have c25b2 : (t411 == t415) = false := by simpa using c25))
                (try (have c25b3 : ¬ (t411 = t415) := by simpa using c25))
                clear c25
                exact absurd ((Option.some.inj H).trans HRT_.out) (by decide)
            · replace c24 := Bool.eq_false_iff.mpr c24
              subst c24
              have H1 : (some false) = some r := by rw [if_neg (show ¬ (false = true) by decide)] at H; exact H
              clear H
              have H := H1
              clear H1
              exact absurd ((Option.some.inj H).trans HRT_.out) (by decide)
          · rw [if_neg c22] at H
            have c22b0 : (t440 == t441) = false := by simpa using c22
            (try (have c22b1 : decide (t440 = t441) = false := by simpa using c22))
            (try (have c22b2 : (t440 == t441) = false := by simpa using c22))
            (try (have c22b3 : ¬ (t440 = t441) := by simpa using c22))
            clear c22
            exact absurd ((Option.some.inj H).trans HRT_.out) (by decide)
        · replace c19 := Bool.eq_false_iff.mpr c19
          subst c19
          have H1 : (some false) = some r := by rw [if_neg (show ¬ (false = true) by decide)] at H; exact H
          clear H
          have H := H1
          clear H1
          exact absurd ((Option.some.inj H).trans HRT_.out) (by decide)

/-- THE ONE PURE STATEMENT of avocetlaw03_UtfIs: yours. -/
def avocetlaw03_UtfIs.Pure : Prop := ∀ (l0 : List Int) (l1 : List Int) (a2 : Int) (a3 : ByteArray), l0.length ≤ maxLen → l0.length * 1 ≤ 140737488351232 → (∀ x ∈ l0, (Lit.int .u8 x).wf = true) → l1.length ≤ maxLen → l1.length * 8 ≤ 140737488351232 → (∀ x ∈ l1, (Lit.int .i64 x).wf = true) → (Lit.int .i64 a2).wf = true → a3.size ≤ 140737488351232 → ∃ k, avocetlaw03_UtfIs.f k l0 l1 a2 a3 = some true
theorem avocetlaw03_UtfIs.walk (P : avocetlaw03_UtfIs.Pure) (a0 : Option Addr) (len0 cap0 : Nat) (z0 : List Int) (a1 : Option Addr) (len1 cap1 : Nat) (z1 : List Int) (a2 : Int) (a3 : ByteArray) (w : World) (hG : Globs w) (w0 : (a0 = none ∧ len0 = 0 ∧ cap0 = 0 ∧ z0 = []) ∨ ∃ x, a0 = some x ∧ len0 ≤ cap0 ∧ cap0 ≤ maxLen ∧ z0.length = cap0 ∧ (∀ i, i < z0.length → w.cell? (x.add i) = some (.int .u8 (z0.getD i 0))) ∧ ∀ n ∈ z0, (Lit.int .u8 n).wf = true) (y0 : len0 * 1 ≤ 140737488351232) (w1 : (a1 = none ∧ len1 = 0 ∧ cap1 = 0 ∧ z1 = []) ∨ ∃ x, a1 = some x ∧ len1 ≤ cap1 ∧ cap1 ≤ maxLen ∧ z1.length = cap1 ∧ (∀ i, i < z1.length → w.cell? (x.add i) = some (.int .i64 (z1.getD i 0))) ∧ ∀ n ∈ z1, (Lit.int .i64 n).wf = true) (y1 : len1 * 8 ≤ 140737488351232) (w2 : (Lit.int .i64 a2).wf = true) (w3 : a3.size ≤ 140737488351232) :
    Calls Tryd.prog 8 #[.slice a0 len0 cap0, .slice a1 len1 cap1, .int .i64 a2, .string a3] w fun e w' => e = .returned (.bool true) ∧ Below w.heap.size w w' := by
  obtain ⟨l0, rfl, hr0, hm0, hw0, hc0⟩ := ReadsInt.ofRowC w0
  obtain ⟨l1, rfl, hr1, hm1, hw1, hc1⟩ := ReadsInt.ofRowC w1
  obtain ⟨k, h⟩ := P l0 l1 a2 a3 hm0 y0 hw0 hm1 y1 hw1 w2 w3
  refine (avocetlaw03_UtfIs.calls k _ _ l0 _ _ l1 a2 a3 true w hG (Kd.C_of_reads (d := (0 : Int)) (h1 := fun _ => rfl) hr0) hc0 (Kd.C_of_reads (d := (0 : Int)) (h1 := fun _ => rfl) hr1) hc1 rfl h).mono ?_
  rintro e w' ⟨rfl, hd⟩
  exact ⟨rfl, hd⟩

end Go.Proofs.YtmbpimhfanafcaaDoor.G
