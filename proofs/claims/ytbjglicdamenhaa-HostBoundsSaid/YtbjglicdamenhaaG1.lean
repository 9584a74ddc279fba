-- Made by gprint.py (mine) over the kit's print.py, out of the translation; parts of it typed by hand.
import Derived.Test.YtbjglicdamenhaaG0
namespace Go.Proofs.Ytbjglicdamenhaa.G
open Go.RowKit Go.Proofs.YtbjglicdamenhaaW.PrintWords Go.Proofs.YtbjglicdamenhaaW.PrintLast Go.Proofs.YtbjglicdamenhaaW.PrintMore
attribute [local go_sem] max2_int min2_int max_two min_two max_three min_three max_four min_four   -- for this text's walks alone
set_option linter.unusedVariables false
set_option linter.unusedSimpArgs false

-- NOT PRINTED: function 30 (host_Reply)

-- NOT PRINTED: function 31 (slices_Clone_byte_byte)

-- NOT PRINTED: function 10 (host_New)

-- NOT PRINTED: function 43 (memory_Mem_all)

-- NOT PRINTED: function 22 (memory_Mem_Sum)

-- NOT PRINTED: function 25 (table_Globs_All)

/-! ### ints_Fits: function 37 -/
def ints_Fits.f (a0 : Int) (a1 : Int) : Option (Bool) := if a0 = 126 then (some true) else (if a0 = 127 then (some ((a1 / 4294967296) == 0)) else (some false))
set_option maxHeartbeats 8000000 in
set_option maxRecDepth 100000 in
theorem ints_Fits.calls (a0 : Int) (a1 : Int) (r : Bool) (w : World) (h : ints_Fits.f a0 a1 = some r) :
    Calls Try.prog 37 #[.int .u8 a0, .int .u64 a1] w fun e w' => e = .returned (.bool r) ∧ Drawn0 w w' := by
  have H : (if a0 = 126 then (some true) else (if a0 = 127 then (some ((a1 / 4294967296) == 0)) else (some false))) = some r := h
  clear h
  by_cases c3 : a0 = 126
  · rw [if_pos c3] at H
    have c3b0 : (a0 == 126) = true := beq_iff_eq.mpr c3
    have c3b1 : (a0 != 126) = false := bne_eq_false_iff_eq.mpr c3
    clear c3
    obtain rfl := Option.some.inj H
    go_enter Try.func37, Try.ntmps37
    go_wp2
    go_ret
    exact ⟨by first | rfl | (simp; done) | (simp [*]; done), by repeat (first | exact Drawn0.refl _ | apply Drawn0.step)⟩
  · rw [if_neg c3] at H
    have c3b0 : (a0 == 126) = false := beq_eq_false_iff_ne.mpr c3
    have c3b1 : (a0 != 126) = true := bne_iff_ne.mpr c3
    by_cases c4 : a0 = 127
    · rw [if_pos c4] at H
      have c4b0 : (a0 == 127) = true := beq_iff_eq.mpr c4
      have c4b1 : (a0 != 127) = false := bne_eq_false_iff_eq.mpr c4
      clear c4
      obtain rfl := Option.some.inj H
      go_enter Try.func37, Try.ntmps37
      go_wp2
      go_ret
      exact ⟨by first | rfl | (simp; done) | (simp [*]; done), by repeat (first | exact Drawn0.refl _ | apply Drawn0.step)⟩
    · rw [if_neg c4] at H
      have c4b0 : (a0 == 127) = false := beq_eq_false_iff_ne.mpr c4
      have c4b1 : (a0 != 127) = true := bne_iff_ne.mpr c4
      obtain rfl := Option.some.inj H
      go_enter Try.func37, Try.ntmps37
      go_wp2
      go_ret
      exact ⟨by first | rfl | (simp; done) | (simp [*]; done), by repeat (first | exact Drawn0.refl _ | apply Drawn0.step)⟩

-- NOT PRINTED: function 46 (slices_EqualFunc_byte_uint64_byte_uint64)

-- NOT PRINTED: function 32 (host_fits)

-- NOT PRINTED: function 33 (slices_Clone_uint64_uint64)

-- NOT PRINTED: function 34 (host_Host_next)

-- NOT PRINTED: function 35 (host_of)

-- NOT PRINTED: function 12 (host_Host_Do)

-- NOT PRINTED: function 36 (host_Call)

-- NOT PRINTED: function 15 (host_Host_Log)

-- NOT PRINTED: function 16 (host_Host_Left)

-- NOT PRINTED: function 7 (avocetlaw16_awake)

/-! ### avocetref16_Few: function 8 -/
def avocetref16_Few.l0 : Nat → List (S82) → Int → Option (Bool)
  | 0, _, _ => none
  | k + 1, x0, x3 => if x3 < (x0.length : Int) then (if 0 ≤ x3 then (if (((rd_T82 x0 x3).f3).length : Int) > 300 then (some false) else (avocetref16_Few.l0 k x0 (wrap64 (x3 + 1)))) else (none)) else (some true)
def avocetref16_Few.f (k : Nat) (l0 : List (S82)) : Option (Bool) := if (l0.length : Int) > 40 then (some false) else (avocetref16_Few.l0 k l0 0)
theorem avocetref16_Few.mono_l : ∀ k, (∀ y0 y1, LeO (avocetref16_Few.l0 k y0 y1) (avocetref16_Few.l0 (k + 1) y0 y1))
  | 0 => fun _ _ r h => by simp [avocetref16_Few.l0] at h
  | k + 1 => by
    have ih0 := avocetref16_Few.mono_l k
    · intro y0 y1
      unfold avocetref16_Few.l0
      repeat' first
      | (with_reducible exact ih0 _ _)
      | (with_reducible exact LeO.refl _)
      | (with_reducible exact LeO.none _)
      | (with_reducible refine LeO.ite ?_ ?_)
      | (with_reducible refine LeO.bind ?_ (fun _ => ?_))
      | exact ih0 _ _
      | exact LeO.none _
      | refine LeO.ite ?_ ?_
      | refine LeO.bind ?_ (fun _ => ?_)
theorem avocetref16_Few.mono : ∀ a0 k, LeO (avocetref16_Few.f k a0) (avocetref16_Few.f (k + 1) a0) := by
  intro a0 k
  have ih0 := avocetref16_Few.mono_l k
  unfold avocetref16_Few.f
  repeat' first
      | (with_reducible exact ih0 _ _)
      | (with_reducible exact LeO.refl _)
      | (with_reducible exact LeO.none _)
      | (with_reducible refine LeO.ite ?_ ?_)
      | (with_reducible refine LeO.bind ?_ (fun _ => ?_))
      | exact ih0 _ _
      | exact LeO.none _
      | refine LeO.ite ?_ ?_
      | refine LeO.bind ?_ (fun _ => ?_)
set_option maxHeartbeats 8000000 in
set_option maxRecDepth 100000 in
theorem avocetref16_Few.calls (k : Nat) (A0 : Option Addr) (c0 : Nat) (l0 : List (S82)) (r : Bool) (w : World) (hr0 : Kd.C k82 w A0 l0.length l0) (hc0 : l0.length ≤ c0) (h : avocetref16_Few.f k l0 = some r) :
    Calls Try.prog 8 #[.slice A0 l0.length c0] w fun e w' => e = .returned (.bool r) ∧ Drawn0 w w' := by
  have HR0 := Aside0.mk hr0
  have HC0 := Aside0.mk hc0
  clear hr0 hc0
  have H : (if (l0.length : Int) > 40 then (some false) else (avocetref16_Few.l0 k l0 0)) = some r := h
  clear h
  by_cases c2 : (l0.length : Int) > 40
  · rw [if_pos c2] at H
    have c2b0 : decide (40 < (l0.length : Int)) = true := decide_eq_true c2
    have c2b1 : decide (40 < l0.length) = true := decide_eq_true (by omega)
    clear c2
    obtain rfl := Option.some.inj H
    go_enter Try.func8, Try.ntmps8
    go_wp2
    go_ret
    exact ⟨by first | rfl | (simp; done) | (simp [*]; done), by repeat (first | exact Drawn0.refl _ | apply Drawn0.step)⟩
  · rw [if_neg c2] at H
    have c2b0 : decide (40 < (l0.length : Int)) = false := decide_eq_false c2
    have c2b1 : decide (40 < l0.length) = false := decide_eq_false (by omega)
    clear c2
    have H' := Aside0.mk H
    clear H
    go_enter Try.func8, Try.ntmps8
    go_wp2
    go_loopg [3] k (fun kq v3 w' => ∃ (x3_1 : Int), v3 = .int .i64 x3_1 ∧ Aside0 (avocetref16_Few.l0 kq l0 x3_1 = some r) ∧ Aside0 (kq ≤ k) ∧ Drawn0 w w')
    case atStart => exact ⟨(0), (by first | rfl | (simp; done) | (simp [*]; done)), H', ⟨Nat.le_refl _⟩, by repeat (first | exact Drawn0.refl _ | apply Drawn0.step)⟩
    case round =>
      clear H'
      try clear c2
      try clear c2b0
      try clear c2b1
      try clear p2
      obtain ⟨x3_1, rfl, HA, HK1, ⟨m1, rfl⟩⟩ := hrel
      cases gk with
      | zero => exact absurd HA.out (by simp [avocetref16_Few.l0])
      | succ k1 =>
        have H := HA.out
        clear HA
        simp only [avocetref16_Few.l0] at H
        by_cases c3 : x3_1 < (l0.length : Int)
        · rw [if_pos c3] at H
          have c3b0 : decide (x3_1 < (l0.length : Int)) = true := decide_eq_true c3
          clear c3
          by_cases c4 : 0 ≤ x3_1
          · rw [if_pos c4] at H
            have c4b0 : decide (0 ≤ x3_1) = true := decide_eq_true c4
            clear c4
            by_cases c5 : (((rd_T82 l0 x3_1).f3).length : Int) > 300
            · rw [if_pos c5] at H
              have c5b0 : decide (300 < (((rd_T82 l0 x3_1).f3).length : Int)) = true := decide_eq_true c5
              have c5b1 : decide (300 < ((rd_T82 l0 x3_1).f3).length) = true := decide_eq_true (by omega)
              clear c5
              obtain rfl := Option.some.inj H
              have p107 : 0 ≤ (x3_1 : Int) := of_decide_eq_true (by first | (with_reducible assumption) | assumption)
              have q107 : x3_1 < (l0.length : Int) := of_decide_eq_true (by first | (with_reducible assumption) | assumption)
              obtain ⟨ad107, A107_3, c107_3, e107, hx107_0, hx107_1, hx107_2, hx107_3, hx107_4, hx107_5, hl107_3, hi107_3⟩ := at_T82 HR0.out x3_1 p107 q107
              cases e107
              have HR107_3 := Aside0.mk hi107_3
              have HC107_3 := Aside0.mk hl107_3
              clear hi107_3 hl107_3
              replace p107 := eq_true p107
              replace q107 := eq_true q107
              go_wp2
              go_ret
              exact ⟨by first | rfl | (simp; done) | (simp [*]; done), by repeat (first | exact Drawn0.refl _ | apply Drawn0.step)⟩
            · rw [if_neg c5] at H
              have c5b0 : decide (300 < (((rd_T82 l0 x3_1).f3).length : Int)) = false := decide_eq_false c5
              have c5b1 : decide (300 < ((rd_T82 l0 x3_1).f3).length) = false := decide_eq_false (by omega)
              clear c5
              have H' := Aside0.mk H
              clear H
              have p107 : 0 ≤ (x3_1 : Int) := of_decide_eq_true (by first | (with_reducible assumption) | assumption)
              have q107 : x3_1 < (l0.length : Int) := of_decide_eq_true (by first | (with_reducible assumption) | assumption)
              obtain ⟨ad107, A107_3, c107_3, e107, hx107_0, hx107_1, hx107_2, hx107_3, hx107_4, hx107_5, hl107_3, hi107_3⟩ := at_T82 HR0.out x3_1 p107 q107
              cases e107
              have HR107_3 := Aside0.mk hi107_3
              have HC107_3 := Aside0.mk hl107_3
              clear hi107_3 hl107_3
              replace p107 := eq_true p107
              replace q107 := eq_true q107
              go_wp2
              go_roundg k1
              case measure => have := HK1.out; omega
              case rel => exact ⟨(wrap64 (x3_1 + 1)), (by first | rfl | (simp; done) | (simp [*]; done)), H', ⟨by have := HK1.out; omega⟩, by repeat (first | exact Drawn0.refl _ | apply Drawn0.step)⟩
          · rw [if_neg c4] at H
            exact absurd H (by simp)
        · rw [if_neg c3] at H
          have c3b0 : decide (x3_1 < (l0.length : Int)) = false := decide_eq_false c3
          clear c3
          obtain rfl := Option.some.inj H
          go_wp2
          go_ret
          exact ⟨by first | rfl | (simp; done) | (simp [*]; done), by repeat (first | exact Drawn0.refl _ | apply Drawn0.step)⟩

/-! ### avocetlaw16_small: function 9 -/
def avocetlaw16_small.l0 : Nat → List (S40) → Int → Option (Bool)
  | 0, _, _ => none
  | k + 1, x0, x3 => if x3 < (x0.length : Int) then (if 0 ≤ x3 then (if (((rd_T40 x0 x3).f2).length : Int) > 40 then (some false) else (if (((rd_T40 x0 x3).f1.f0).length : Int) > 40 then (some false) else (if (((rd_T40 x0 x3).f1.f1).length : Int) > 20 then (some false) else (avocetlaw16_small.l0 k x0 (wrap64 (x3 + 1)))))) else (none)) else (some true)
def avocetlaw16_small.f (k : Nat) (l0 : List (S40)) : Option (Bool) := if (l0.length : Int) > 40 then (some false) else (avocetlaw16_small.l0 k l0 0)
theorem avocetlaw16_small.mono_l : ∀ k, (∀ y0 y1, LeO (avocetlaw16_small.l0 k y0 y1) (avocetlaw16_small.l0 (k + 1) y0 y1))
  | 0 => fun _ _ r h => by simp [avocetlaw16_small.l0] at h
  | k + 1 => by
    have ih0 := avocetlaw16_small.mono_l k
    · intro y0 y1
      unfold avocetlaw16_small.l0
      repeat' first
      | (with_reducible exact ih0 _ _)
      | (with_reducible exact LeO.refl _)
      | (with_reducible exact LeO.none _)
      | (with_reducible refine LeO.ite ?_ ?_)
      | (with_reducible refine LeO.bind ?_ (fun _ => ?_))
      | exact ih0 _ _
      | exact LeO.none _
      | refine LeO.ite ?_ ?_
      | refine LeO.bind ?_ (fun _ => ?_)
theorem avocetlaw16_small.mono : ∀ a0 k, LeO (avocetlaw16_small.f k a0) (avocetlaw16_small.f (k + 1) a0) := by
  intro a0 k
  have ih0 := avocetlaw16_small.mono_l k
  unfold avocetlaw16_small.f
  repeat' first
      | (with_reducible exact ih0 _ _)
      | (with_reducible exact LeO.refl _)
      | (with_reducible exact LeO.none _)
      | (with_reducible refine LeO.ite ?_ ?_)
      | (with_reducible refine LeO.bind ?_ (fun _ => ?_))
      | exact ih0 _ _
      | exact LeO.none _
      | refine LeO.ite ?_ ?_
      | refine LeO.bind ?_ (fun _ => ?_)
set_option maxHeartbeats 8000000 in
set_option maxRecDepth 100000 in
theorem avocetlaw16_small.calls (k : Nat) (A0 : Option Addr) (c0 : Nat) (l0 : List (S40)) (r : Bool) (w : World) (hr0 : Kd.C k40 w A0 l0.length l0) (hc0 : l0.length ≤ c0) (h : avocetlaw16_small.f k l0 = some r) :
    Calls Try.prog 9 #[.slice A0 l0.length c0] w fun e w' => e = .returned (.bool r) ∧ Drawn0 w w' := by
  have HR0 := Aside0.mk hr0
  have HC0 := Aside0.mk hc0
  clear hr0 hc0
  have H : (if (l0.length : Int) > 40 then (some false) else (avocetlaw16_small.l0 k l0 0)) = some r := h
  clear h
  by_cases c2 : (l0.length : Int) > 40
  · rw [if_pos c2] at H
    have c2b0 : decide (40 < (l0.length : Int)) = true := decide_eq_true c2
    have c2b1 : decide (40 < l0.length) = true := decide_eq_true (by omega)
    clear c2
    obtain rfl := Option.some.inj H
    go_enter Try.func9, Try.ntmps9
    go_wp2
    go_ret
    exact ⟨by first | rfl | (simp; done) | (simp [*]; done), by repeat (first | exact Drawn0.refl _ | apply Drawn0.step)⟩
  · rw [if_neg c2] at H
    have c2b0 : decide (40 < (l0.length : Int)) = false := decide_eq_false c2
    have c2b1 : decide (40 < l0.length) = false := decide_eq_false (by omega)
    clear c2
    have H' := Aside0.mk H
    clear H
    go_enter Try.func9, Try.ntmps9
    go_wp2
    go_loopg [3] k (fun kq v3 w' => ∃ (x3_1 : Int), v3 = .int .i64 x3_1 ∧ Aside0 (avocetlaw16_small.l0 kq l0 x3_1 = some r) ∧ Aside0 (kq ≤ k) ∧ Drawn0 w w')
    case atStart => exact ⟨(0), (by first | rfl | (simp; done) | (simp [*]; done)), H', ⟨Nat.le_refl _⟩, by repeat (first | exact Drawn0.refl _ | apply Drawn0.step)⟩
    case round =>
      clear H'
      try clear c2
      try clear c2b0
      try clear c2b1
      try clear p2
      obtain ⟨x3_1, rfl, HA, HK1, ⟨m1, rfl⟩⟩ := hrel
      cases gk with
      | zero => exact absurd HA.out (by simp [avocetlaw16_small.l0])
      | succ k1 =>
        have H := HA.out
        clear HA
        simp only [avocetlaw16_small.l0] at H
        by_cases c3 : x3_1 < (l0.length : Int)
        · rw [if_pos c3] at H
          have c3b0 : decide (x3_1 < (l0.length : Int)) = true := decide_eq_true c3
          clear c3
          by_cases c4 : 0 ≤ x3_1
          · rw [if_pos c4] at H
            have c4b0 : decide (0 ≤ x3_1) = true := decide_eq_true c4
            clear c4
            by_cases c5 : (((rd_T40 l0 x3_1).f2).length : Int) > 40
            · rw [if_pos c5] at H
              have c5b0 : decide (40 < (((rd_T40 l0 x3_1).f2).length : Int)) = true := decide_eq_true c5
              have c5b1 : decide (40 < ((rd_T40 l0 x3_1).f2).length) = true := decide_eq_true (by omega)
              clear c5
              obtain rfl := Option.some.inj H
              have p108 : 0 ≤ (x3_1 : Int) := of_decide_eq_true (by first | (with_reducible assumption) | assumption)
              have q108 : x3_1 < (l0.length : Int) := of_decide_eq_true (by first | (with_reducible assumption) | assumption)
              obtain ⟨ad108, A108_1, c108_1, A108_2, c108_2, A108_3, c108_3, e108, hx108_0, hx108_1, hx108_2, hx108_3, hl108_1, hi108_1, hl108_2, hi108_2, hl108_3, hi108_3⟩ := at_T40 HR0.out x3_1 p108 q108
              cases e108
              have HR108_1 := Aside0.mk hi108_1
              have HC108_1 := Aside0.mk hl108_1
              clear hi108_1 hl108_1
              have HR108_2 := Aside0.mk hi108_2
              have HC108_2 := Aside0.mk hl108_2
              clear hi108_2 hl108_2
              have HR108_3 := Aside0.mk hi108_3
              have HC108_3 := Aside0.mk hl108_3
              clear hi108_3 hl108_3
              replace p108 := eq_true p108
              replace q108 := eq_true q108
              go_wp2
              go_ret
              exact ⟨by first | rfl | (simp; done) | (simp [*]; done), by repeat (first | exact Drawn0.refl _ | apply Drawn0.step)⟩
            · rw [if_neg c5] at H
              have c5b0 : decide (40 < (((rd_T40 l0 x3_1).f2).length : Int)) = false := decide_eq_false c5
              have c5b1 : decide (40 < ((rd_T40 l0 x3_1).f2).length) = false := decide_eq_false (by omega)
              clear c5
              by_cases c6 : (((rd_T40 l0 x3_1).f1.f0).length : Int) > 40
              · rw [if_pos c6] at H
                have c6b0 : decide (40 < (((rd_T40 l0 x3_1).f1.f0).length : Int)) = true := decide_eq_true c6
                have c6b1 : decide (40 < ((rd_T40 l0 x3_1).f1.f0).length) = true := decide_eq_true (by omega)
                clear c6
                obtain rfl := Option.some.inj H
                have p108 : 0 ≤ (x3_1 : Int) := of_decide_eq_true (by first | (with_reducible assumption) | assumption)
                have q108 : x3_1 < (l0.length : Int) := of_decide_eq_true (by first | (with_reducible assumption) | assumption)
                obtain ⟨ad108, A108_1, c108_1, A108_2, c108_2, A108_3, c108_3, e108, hx108_0, hx108_1, hx108_2, hx108_3, hl108_1, hi108_1, hl108_2, hi108_2, hl108_3, hi108_3⟩ := at_T40 HR0.out x3_1 p108 q108
                cases e108
                have HR108_1 := Aside0.mk hi108_1
                have HC108_1 := Aside0.mk hl108_1
                clear hi108_1 hl108_1
                have HR108_2 := Aside0.mk hi108_2
                have HC108_2 := Aside0.mk hl108_2
                clear hi108_2 hl108_2
                have HR108_3 := Aside0.mk hi108_3
                have HC108_3 := Aside0.mk hl108_3
                clear hi108_3 hl108_3
                replace p108 := eq_true p108
                replace q108 := eq_true q108
                have p109 : 0 ≤ (x3_1 : Int) := of_decide_eq_true (by first | (with_reducible assumption) | assumption)
                have q109 : x3_1 < (l0.length : Int) := of_decide_eq_true (by first | (with_reducible assumption) | assumption)
                obtain ⟨ad109, A109_1, c109_1, A109_2, c109_2, A109_3, c109_3, e109, hx109_0, hx109_1, hx109_2, hx109_3, hl109_1, hi109_1, hl109_2, hi109_2, hl109_3, hi109_3⟩ := at_T40 HR0.out x3_1 p109 q109
                obtain rfl : ad108 = ad109 := (by injection e109)
                have HR109_1 := Aside0.mk hi109_1
                have HC109_1 := Aside0.mk hl109_1
                clear hi109_1 hl109_1
                have HR109_2 := Aside0.mk hi109_2
                have HC109_2 := Aside0.mk hl109_2
                clear hi109_2 hl109_2
                have HR109_3 := Aside0.mk hi109_3
                have HC109_3 := Aside0.mk hl109_3
                clear hi109_3 hl109_3
                replace p109 := eq_true p109
                replace q109 := eq_true q109
                have ea_ := Option.some.inj (hx108_1.symm.trans hx109_1)
                injection ea_ with ea_ en_ ec_
                subst ea_
                subst ec_
                clear en_
                have ea_ := Option.some.inj (hx108_2.symm.trans hx109_2)
                injection ea_ with ea_ en_ ec_
                subst ea_
                subst ec_
                clear en_
                have ea_ := Option.some.inj (hx108_3.symm.trans hx109_3)
                injection ea_ with ea_ en_ ec_
                subst ea_
                subst ec_
                clear en_
                go_wp2
                go_ret
                exact ⟨by first | rfl | (simp; done) | (simp [*]; done), by repeat (first | exact Drawn0.refl _ | apply Drawn0.step)⟩
              · rw [if_neg c6] at H
                have c6b0 : decide (40 < (((rd_T40 l0 x3_1).f1.f0).length : Int)) = false := decide_eq_false c6
                have c6b1 : decide (40 < ((rd_T40 l0 x3_1).f1.f0).length) = false := decide_eq_false (by omega)
                clear c6
                by_cases c7 : (((rd_T40 l0 x3_1).f1.f1).length : Int) > 20
                · rw [if_pos c7] at H
                  have c7b0 : decide (20 < (((rd_T40 l0 x3_1).f1.f1).length : Int)) = true := decide_eq_true c7
                  have c7b1 : decide (20 < ((rd_T40 l0 x3_1).f1.f1).length) = true := decide_eq_true (by omega)
                  clear c7
                  obtain rfl := Option.some.inj H
                  have p108 : 0 ≤ (x3_1 : Int) := of_decide_eq_true (by first | (with_reducible assumption) | assumption)
                  have q108 : x3_1 < (l0.length : Int) := of_decide_eq_true (by first | (with_reducible assumption) | assumption)
                  obtain ⟨ad108, A108_1, c108_1, A108_2, c108_2, A108_3, c108_3, e108, hx108_0, hx108_1, hx108_2, hx108_3, hl108_1, hi108_1, hl108_2, hi108_2, hl108_3, hi108_3⟩ := at_T40 HR0.out x3_1 p108 q108
                  cases e108
                  have HR108_1 := Aside0.mk hi108_1
                  have HC108_1 := Aside0.mk hl108_1
                  clear hi108_1 hl108_1
                  have HR108_2 := Aside0.mk hi108_2
                  have HC108_2 := Aside0.mk hl108_2
                  clear hi108_2 hl108_2
                  have HR108_3 := Aside0.mk hi108_3
                  have HC108_3 := Aside0.mk hl108_3
                  clear hi108_3 hl108_3
                  replace p108 := eq_true p108
                  replace q108 := eq_true q108
                  have p109 : 0 ≤ (x3_1 : Int) := of_decide_eq_true (by first | (with_reducible assumption) | assumption)
                  have q109 : x3_1 < (l0.length : Int) := of_decide_eq_true (by first | (with_reducible assumption) | assumption)
                  obtain ⟨ad109, A109_1, c109_1, A109_2, c109_2, A109_3, c109_3, e109, hx109_0, hx109_1, hx109_2, hx109_3, hl109_1, hi109_1, hl109_2, hi109_2, hl109_3, hi109_3⟩ := at_T40 HR0.out x3_1 p109 q109
                  obtain rfl : ad108 = ad109 := (by injection e109)
                  have HR109_1 := Aside0.mk hi109_1
                  have HC109_1 := Aside0.mk hl109_1
                  clear hi109_1 hl109_1
                  have HR109_2 := Aside0.mk hi109_2
                  have HC109_2 := Aside0.mk hl109_2
                  clear hi109_2 hl109_2
                  have HR109_3 := Aside0.mk hi109_3
                  have HC109_3 := Aside0.mk hl109_3
                  clear hi109_3 hl109_3
                  replace p109 := eq_true p109
                  replace q109 := eq_true q109
                  have ea_ := Option.some.inj (hx108_1.symm.trans hx109_1)
                  injection ea_ with ea_ en_ ec_
                  subst ea_
                  subst ec_
                  clear en_
                  have ea_ := Option.some.inj (hx108_2.symm.trans hx109_2)
                  injection ea_ with ea_ en_ ec_
                  subst ea_
                  subst ec_
                  clear en_
                  have ea_ := Option.some.inj (hx108_3.symm.trans hx109_3)
                  injection ea_ with ea_ en_ ec_
                  subst ea_
                  subst ec_
                  clear en_
                  have p110 : 0 ≤ (x3_1 : Int) := of_decide_eq_true (by first | (with_reducible assumption) | assumption)
                  have q110 : x3_1 < (l0.length : Int) := of_decide_eq_true (by first | (with_reducible assumption) | assumption)
                  obtain ⟨ad110, A110_1, c110_1, A110_2, c110_2, A110_3, c110_3, e110, hx110_0, hx110_1, hx110_2, hx110_3, hl110_1, hi110_1, hl110_2, hi110_2, hl110_3, hi110_3⟩ := at_T40 HR0.out x3_1 p110 q110
                  obtain rfl : ad108 = ad110 := (by injection e110)
                  have HR110_1 := Aside0.mk hi110_1
                  have HC110_1 := Aside0.mk hl110_1
                  clear hi110_1 hl110_1
                  have HR110_2 := Aside0.mk hi110_2
                  have HC110_2 := Aside0.mk hl110_2
                  clear hi110_2 hl110_2
                  have HR110_3 := Aside0.mk hi110_3
                  have HC110_3 := Aside0.mk hl110_3
                  clear hi110_3 hl110_3
                  replace p110 := eq_true p110
                  replace q110 := eq_true q110
                  have ea_ := Option.some.inj (hx108_1.symm.trans hx110_1)
                  injection ea_ with ea_ en_ ec_
                  subst ea_
                  subst ec_
                  clear en_
                  have ea_ := Option.some.inj (hx108_2.symm.trans hx110_2)
                  injection ea_ with ea_ en_ ec_
                  subst ea_
                  subst ec_
                  clear en_
                  have ea_ := Option.some.inj (hx108_3.symm.trans hx110_3)
                  injection ea_ with ea_ en_ ec_
                  subst ea_
                  subst ec_
                  clear en_
                  go_wp2
                  go_ret
                  exact ⟨by first | rfl | (simp; done) | (simp [*]; done), by repeat (first | exact Drawn0.refl _ | apply Drawn0.step)⟩
                · rw [if_neg c7] at H
                  have c7b0 : decide (20 < (((rd_T40 l0 x3_1).f1.f1).length : Int)) = false := decide_eq_false c7
                  have c7b1 : decide (20 < ((rd_T40 l0 x3_1).f1.f1).length) = false := decide_eq_false (by omega)
                  clear c7
                  have H' := Aside0.mk H
                  clear H
                  have p108 : 0 ≤ (x3_1 : Int) := of_decide_eq_true (by first | (with_reducible assumption) | assumption)
                  have q108 : x3_1 < (l0.length : Int) := of_decide_eq_true (by first | (with_reducible assumption) | assumption)
                  obtain ⟨ad108, A108_1, c108_1, A108_2, c108_2, A108_3, c108_3, e108, hx108_0, hx108_1, hx108_2, hx108_3, hl108_1, hi108_1, hl108_2, hi108_2, hl108_3, hi108_3⟩ := at_T40 HR0.out x3_1 p108 q108
                  cases e108
                  have HR108_1 := Aside0.mk hi108_1
                  have HC108_1 := Aside0.mk hl108_1
                  clear hi108_1 hl108_1
                  have HR108_2 := Aside0.mk hi108_2
                  have HC108_2 := Aside0.mk hl108_2
                  clear hi108_2 hl108_2
                  have HR108_3 := Aside0.mk hi108_3
                  have HC108_3 := Aside0.mk hl108_3
                  clear hi108_3 hl108_3
                  replace p108 := eq_true p108
                  replace q108 := eq_true q108
                  have p109 : 0 ≤ (x3_1 : Int) := of_decide_eq_true (by first | (with_reducible assumption) | assumption)
                  have q109 : x3_1 < (l0.length : Int) := of_decide_eq_true (by first | (with_reducible assumption) | assumption)
                  obtain ⟨ad109, A109_1, c109_1, A109_2, c109_2, A109_3, c109_3, e109, hx109_0, hx109_1, hx109_2, hx109_3, hl109_1, hi109_1, hl109_2, hi109_2, hl109_3, hi109_3⟩ := at_T40 HR0.out x3_1 p109 q109
                  obtain rfl : ad108 = ad109 := (by injection e109)
                  have HR109_1 := Aside0.mk hi109_1
                  have HC109_1 := Aside0.mk hl109_1
                  clear hi109_1 hl109_1
                  have HR109_2 := Aside0.mk hi109_2
                  have HC109_2 := Aside0.mk hl109_2
                  clear hi109_2 hl109_2
                  have HR109_3 := Aside0.mk hi109_3
                  have HC109_3 := Aside0.mk hl109_3
                  clear hi109_3 hl109_3
                  replace p109 := eq_true p109
                  replace q109 := eq_true q109
                  have ea_ := Option.some.inj (hx108_1.symm.trans hx109_1)
                  injection ea_ with ea_ en_ ec_
                  subst ea_
                  subst ec_
                  clear en_
                  have ea_ := Option.some.inj (hx108_2.symm.trans hx109_2)
                  injection ea_ with ea_ en_ ec_
                  subst ea_
                  subst ec_
                  clear en_
                  have ea_ := Option.some.inj (hx108_3.symm.trans hx109_3)
                  injection ea_ with ea_ en_ ec_
                  subst ea_
                  subst ec_
                  clear en_
                  have p110 : 0 ≤ (x3_1 : Int) := of_decide_eq_true (by first | (with_reducible assumption) | assumption)
                  have q110 : x3_1 < (l0.length : Int) := of_decide_eq_true (by first | (with_reducible assumption) | assumption)
                  obtain ⟨ad110, A110_1, c110_1, A110_2, c110_2, A110_3, c110_3, e110, hx110_0, hx110_1, hx110_2, hx110_3, hl110_1, hi110_1, hl110_2, hi110_2, hl110_3, hi110_3⟩ := at_T40 HR0.out x3_1 p110 q110
                  obtain rfl : ad108 = ad110 := (by injection e110)
                  have HR110_1 := Aside0.mk hi110_1
                  have HC110_1 := Aside0.mk hl110_1
                  clear hi110_1 hl110_1
                  have HR110_2 := Aside0.mk hi110_2
                  have HC110_2 := Aside0.mk hl110_2
                  clear hi110_2 hl110_2
                  have HR110_3 := Aside0.mk hi110_3
                  have HC110_3 := Aside0.mk hl110_3
                  clear hi110_3 hl110_3
                  replace p110 := eq_true p110
                  replace q110 := eq_true q110
                  have ea_ := Option.some.inj (hx108_1.symm.trans hx110_1)
                  injection ea_ with ea_ en_ ec_
                  subst ea_
                  subst ec_
                  clear en_
                  have ea_ := Option.some.inj (hx108_2.symm.trans hx110_2)
                  injection ea_ with ea_ en_ ec_
                  subst ea_
                  subst ec_
                  clear en_
                  have ea_ := Option.some.inj (hx108_3.symm.trans hx110_3)
                  injection ea_ with ea_ en_ ec_
                  subst ea_
                  subst ec_
                  clear en_
                  go_wp2
                  go_roundg k1
                  case measure => have := HK1.out; omega
                  case rel => exact ⟨(wrap64 (x3_1 + 1)), (by first | rfl | (simp; done) | (simp [*]; done)), H', ⟨by have := HK1.out; omega⟩, by repeat (first | exact Drawn0.refl _ | apply Drawn0.step)⟩
          · rw [if_neg c4] at H
            exact absurd H (by simp)
        · rw [if_neg c3] at H
          have c3b0 : decide (x3_1 < (l0.length : Int)) = false := decide_eq_false c3
          clear c3
          obtain rfl := Option.some.inj H
          go_wp2
          go_ret
          exact ⟨by first | rfl | (simp; done) | (simp [*]; done), by repeat (first | exact Drawn0.refl _ | apply Drawn0.step)⟩

/-! ### avocetlaw16_ours: function 11 -/
def avocetlaw16_ours.l0 : Nat → List (S82) → List (S86) → Int → Option ((List (S86)))
  | 0, _, _, _ => none
  | k + 1, x0, x3, x4 => if x4 < (x0.length : Int) then (if 0 ≤ x4 then (if x3.length < 2199023255552 then (avocetlaw16_ours.l0 k x0 (x3 ++ [(⟨(rd_T82 x0 x4).f0, (rd_T82 x0 x4).f1, (rd_T82 x0 x4).f2, (rd_T82 x0 x4).f3, (rd_T82 x0 x4).f4, (rd_T82 x0 x4).f5⟩ : S86)]) (wrap64 (x4 + 1))) else (none)) else (none)) else (some x3)
def avocetlaw16_ours.f (k : Nat) (l0 : List (S82)) : Option ((List (S86))) := avocetlaw16_ours.l0 k l0 ([] : List (S86)) 0
theorem avocetlaw16_ours.mono_l : ∀ k, (∀ y0 y1 y2, LeO (avocetlaw16_ours.l0 k y0 y1 y2) (avocetlaw16_ours.l0 (k + 1) y0 y1 y2))
  | 0 => fun _ _ _ r h => by simp [avocetlaw16_ours.l0] at h
  | k + 1 => by
    have ih0 := avocetlaw16_ours.mono_l k
    · intro y0 y1 y2
      unfold avocetlaw16_ours.l0
      repeat' first
      | (with_reducible exact ih0 _ _ _)
      | (with_reducible exact LeO.refl _)
      | (with_reducible exact LeO.none _)
      | (with_reducible refine LeO.ite ?_ ?_)
      | (with_reducible refine LeO.bind ?_ (fun _ => ?_))
      | exact ih0 _ _ _
      | exact LeO.none _
      | refine LeO.ite ?_ ?_
      | refine LeO.bind ?_ (fun _ => ?_)
theorem avocetlaw16_ours.mono : ∀ a0 k, LeO (avocetlaw16_ours.f k a0) (avocetlaw16_ours.f (k + 1) a0) := by
  intro a0 k
  have ih0 := avocetlaw16_ours.mono_l k
  unfold avocetlaw16_ours.f
  repeat' first
      | (with_reducible exact ih0 _ _ _)
      | (with_reducible exact LeO.refl _)
      | (with_reducible exact LeO.none _)
      | (with_reducible refine LeO.ite ?_ ?_)
      | (with_reducible refine LeO.bind ?_ (fun _ => ?_))
      | exact ih0 _ _ _
      | exact LeO.none _
      | refine LeO.ite ?_ ?_
      | refine LeO.bind ?_ (fun _ => ?_)
set_option maxHeartbeats 8000000 in
set_option maxRecDepth 100000 in
theorem avocetlaw16_ours.calls (k : Nat) (P0_ : Nat → Prop) (A0 : Option Addr) (c0 : Nat) (l0 : List (S82)) (r : List (S86)) (w : World) (hs0 : Kd.V k82 82 w w.heap.size (fun k_ => P0_ k_) (.slice A0 l0.length c0) l0) (h : avocetlaw16_ours.f k l0 = some r) :
    Calls Try.prog 11 #[.slice A0 l0.length c0] w fun e w' => ∃ v0_ : Value, e = .returned (v0_) ∧ Kd.N k86 86 w' w.heap.size (fun k_ => (P0_ k_ ∨ w.heap.size ≤ k_)) v0_ r ∧ Below w.heap.size w w' := by
  have hu82 := Try.underlying82
  have hu86 := Try.underlying86
  have HO0 := Aside0.mk (show Kd.V k82 82 w w.heap.size (fun k_ => (P0_ k_ ∨ w.heap.size ≤ k_)) (.slice A0 l0.length c0) l0 from Kd.V_mono hs0 (fun k_ hk => .inl hk))
  have HB := Aside0.mk (Below.refl w.heap.size w)
  have H : (avocetlaw16_ours.l0 k l0 ([] : List (S86)) 0) = some r := h
  clear h
  have H' := Aside0.mk H
  clear H
  go_enter Try.func11, Try.ntmps11
  go_wp2
  go_loopg [3, 4] k (fun kq v3 v4 w' => ∃ (x3_1 : List (S86)) (x4_1 : Int), v4 = .int .i64 x4_1 ∧ Aside0 (avocetlaw16_ours.l0 kq l0 x3_1 x4_1 = some r) ∧ Aside0 (kq ≤ k) ∧ Aside0 (Kd.V k82 82 w' w.heap.size (fun k_ => (P0_ k_ ∨ w.heap.size ≤ k_) ∧ some k_ ≠ (v3 : Value).ownBlock) (.slice A0 l0.length c0) l0) ∧ Aside0 (Kd.N k86 86 w' w.heap.size (fun k_ => (P0_ k_ ∨ w.heap.size ≤ k_)) v3 x3_1) ∧ Aside0 (Below w.heap.size w w'))
  case atStart => exact ⟨(([] : List (S86))), (0), (by first | rfl | (simp; done) | (simp [*]; done)), H', ⟨Nat.le_refl _⟩, ⟨by (with_reducible repeat (first | apply Kd.V_alloc | apply Kd.V_drewN | apply Kd.V_drew)); exact Kd.V_mono HO0.out (fun _ hk => ⟨hk, (by simp [Value.ownBlock])⟩)⟩, ⟨by first | exact Kd.S_nil _ _ _ _ _ | exact Kd.N_nil _ _ _ _ _ | exact Kd.V_nil _ _ _ _ _ | exact Kd.Q_nil _ _ _ _ _ | exact Kd.R_nil _ _ _ _ _⟩, ⟨by repeat (first | (with_reducible first | exact HB.out | apply below_alloc | apply pw_below_drewN | apply below_drew1) | exact HB.out)⟩⟩
  case round =>
    clear H'
    try clear c1
    obtain ⟨x3_1, x4_1, rfl, HA, HK1, HO_0, HO_3, HB⟩ := hrel
    cases gk with
    | zero => exact absurd HA.out (by simp [avocetlaw16_ours.l0])
    | succ k1 =>
      have H := HA.out
      clear HA
      simp only [avocetlaw16_ours.l0] at H
      by_cases c2 : x4_1 < (l0.length : Int)
      · rw [if_pos c2] at H
        have c2b0 : decide (x4_1 < (l0.length : Int)) = true := decide_eq_true c2
        clear c2
        by_cases c3 : 0 ≤ x4_1
        · rw [if_pos c3] at H
          have c3b0 : decide (0 ≤ x4_1) = true := decide_eq_true c3
          clear c3
          by_cases c4 : x3_1.length < 2199023255552
          · rw [if_pos c4] at H
            have LMc4 := Aside0.mk c4
            clear c4
            obtain ⟨y113, hy113⟩ : ∃ y_ : List (S86), y_ = (x3_1 ++ [(⟨(rd_T82 l0 x4_1).f0, (rd_T82 l0 x4_1).f1, (rd_T82 l0 x4_1).f2, (rd_T82 l0 x4_1).f3, (rd_T82 l0 x4_1).f4, (rd_T82 l0 x4_1).f5⟩ : S86)]) := ⟨_, rfl⟩
            replace H : (avocetlaw16_ours.l0 k1 l0 y113 (wrap64 (x4_1 + 1))) = some r := by first | (rw [hy113]; with_reducible exact H) | (have H2_ := (Option.bind_some _ _).symm.trans H; rw [hy113]; with_reducible exact H2_) | (have H2_ := (Option.bind_some _ _).symm.trans H; with_reducible exact H2_) | with_reducible exact H | (rw [hy113]; exact H) | exact H
            have Ny113 := Aside0.mk hy113
            clear hy113
            have H' := Aside0.mk H
            clear H
            have p111 : 0 ≤ (x4_1 : Int) := of_decide_eq_true (by first | (with_reducible assumption) | assumption)
            have q111 : x4_1 < (l0.length : Int) := of_decide_eq_true (by first | (with_reducible assumption) | assumption)
            obtain ⟨ad111, A111_3, c111_3, e111, hx111_0, hx111_1, hx111_2, hx111_3, hx111_4, hx111_5, hl111_3, hi111_3⟩ := at_T82 (Kd.V_reads' HO_0.out).2.2 x4_1 p111 q111
            cases e111
            obtain ⟨ce111, hce111, hMe111, hcc111⟩ := Kd.V_get HO_0.out z82 x4_1 p111 (by first | exact q111 | exact of_decide_eq_true (by first | (with_reducible assumption) | assumption) | (have e_ := (Kd.V_reads' HO_0.out).1; omega))
            obtain ⟨ua111_3, uc111_3, rfl, ul111_3, ge111_3⟩ := k82_openF hMe111
            have hv111_3 := hcc111 3 _ rfl
            rw [add_field _ _ 3 (by omega)] at hv111_3
            replace hv111_3 := Option.some.inj (hv111_3.symm.trans hx111_3)
            injection hv111_3 with hva_ hvn_ hvc_
            rw [hva_] at ge111_3
            rw [hvc_] at ul111_3
            have HL111_3 := Aside0.mk (show Kd.V (Kd.int .u8) 5 _ w.heap.size _ _ ((rd_T82 l0 x4_1).f3) from Kd.V_mk ul111_3 ge111_3)
            clear hva_ hvn_ hvc_ ge111_3 ul111_3
            clear hcc111 hce111
            have HR111_3 := Aside0.mk hi111_3
            have HC111_3 := Aside0.mk hl111_3
            clear hi111_3 hl111_3
            replace p111 := eq_true p111
            replace q111 := eq_true q111
            go_wp2_with (first | ((with_reducible refine gate_dst (N := 5) rfl ?_); refine box_event ?hg (N := 5) ?hd (cs := #[.int .u64 0, .bool false, .int .i64 0, .slice none 0 0, .int .i64 0, .int .u64 0]) (t := 82) ?hr ?_; (case hd => rfl); (case hg => rfl); (case hr => first | (go_simp; done) | (go_simp; rfl)); intro gb112 hg w5 hbox hb; have n0_ := Aside0.mk (Kd.V_below (Kd.V_elderB (by (with_reducible repeat (first | apply Kd.V_alloc | apply Kd.V_drewN | apply Kd.V_drew)); exact HO_0.out) gb112 (Nat.le_of_eq hg.symm)) hb); have n1_ := Aside0.mk (Kd.N_below (Kd.N_elderB (by (with_reducible repeat (first | apply Kd.N_alloc | apply Kd.N_drewN | apply Kd.N_drew)); exact HO_3.out) gb112 (Nat.le_of_eq hg.symm)) hb); have n2_ := Aside0.mk (Kd.V_below (Kd.V_elderB (by (with_reducible repeat (first | apply Kd.V_alloc | apply Kd.V_drewN | apply Kd.V_drew)); exact HL111_3.out) gb112 (Nat.le_of_eq hg.symm)) hb); have n3_ := Aside0.mk (Kd.C_below (by repeat (first | (with_reducible exact HR111_3.out) | (with_reducible refine Kd.C_alloc ?_ _) | (with_reducible refine Kd.C_drewN ?_ _) | (with_reducible refine Kd.C_drew ?_) | exact HR111_3.out)) hb); have n4_ := Aside0.mk (below_step (by repeat (first | (with_reducible first | exact HB.out | apply below_alloc | apply pw_below_drewN | apply below_drew1) | exact HB.out)) hb); have n5_ := Aside0.mk (hbox); have n6_ := Aside0.mk ((by rw [hg]; exact (below_size (by repeat (first | (with_reducible first | exact HB.out | apply below_alloc | apply pw_below_drewN | apply below_drew1) | exact HB.out))) : w.heap.size ≤ gb112)); have n7_ := Aside0.mk ((by rw [hg]; exact (below_size (by repeat (first | (with_reducible first | exact HB.out | apply below_alloc | apply pw_below_drewN | apply below_drew1) | exact HB.out))) : w.heap.size ≤ gb112)); clear HO_0; clear HO_3; clear HL111_3; clear HR111_3; clear HB; have HO_0 := n0_; have HO_3 := n1_; have HL111_3 := n2_; have HR111_3 := n3_; have HB := n4_; have BK112 := n5_; have GW112 := n6_; have GE112 := n7_; clear n0_ n1_ n2_ n3_ n4_ n5_ n6_ n7_; clear hb hbox hg; have hcz6_0 : w5.cell? ⟨gb112, 0, none⟩ = some (.int .u64 0) := (blk_cell BK112.out 0).trans rfl; have hcz6_1 : w5.cell? ⟨gb112, 1, none⟩ = some (.bool false) := (blk_cell BK112.out 1).trans rfl; have hcz6_2 : w5.cell? ⟨gb112, 2, none⟩ = some (.int .i64 0) := (blk_cell BK112.out 2).trans rfl; have hcz6_3 : w5.cell? ⟨gb112, 3, none⟩ = some (.slice none 0 0) := (blk_cell BK112.out 3).trans rfl; have hcz6_4 : w5.cell? ⟨gb112, 4, none⟩ = some (.int .i64 0) := (blk_cell BK112.out 4).trans rfl; have hcz6_5 : w5.cell? ⟨gb112, 5, none⟩ = some (.int .u64 0) := (blk_cell BK112.out 5).trans rfl; have hfz6_0 := blk_frozen BK112.out 0; have hfz6_1 := blk_frozen BK112.out 1; have hfz6_2 := blk_frozen BK112.out 2; have hfz6_3 := blk_frozen BK112.out 3; have hfz6_4 := blk_frozen BK112.out 4; have hfz6_5 := blk_frozen BK112.out 5) | ((with_reducible refine gate_store (t := 82) (p := 5) rfl ?_); refine store_event (t := 82) (p := 5) (v := ?vo_w7) (w1 := ((((((w5.setCell ⟨gb112, 0, none⟩ (.int .u64 ((rd_T82 l0 x4_1).f0))).setCell ⟨gb112, 1, none⟩ (.bool ((rd_T82 l0 x4_1).f1))).setCell ⟨gb112, 2, none⟩ (.int .i64 ((rd_T82 l0 x4_1).f2))).setCell ⟨gb112, 3, none⟩ (.slice A111_3 ((rd_T82 l0 x4_1).f3).length c111_3)).setCell ⟨gb112, 4, none⟩ (.int .i64 ((rd_T82 l0 x4_1).f4))).setCell ⟨gb112, 5, none⟩ (.int .u64 ((rd_T82 l0 x4_1).f5)))) ?hg ?ho ?hn ?hr ?_; (case ho => rfl); (case hg => rfl); (case hn => rfl); (case hr => first | (go_simp; done) | (go_simp; rfl)); intro w7 hw; have n0_ : Aside0 (Kd.V k82 82 w7 w.heap.size (fun k_ => (P0_ k_ ∨ w.heap.size ≤ k_) ∧ some k_ ≠ (u3 : Value).ownBlock ∧ k_ ≠ gb112) (.slice (some ad111) l0.length c0) l0) := ⟨(by rw [hw]; exact (by (with_reducible repeat (first | apply Kd.V_alloc | apply Kd.V_drewN | apply Kd.V_drew)); exact Kd.V_mono (Kd.V_far (p := ⟨gb112, 5, none⟩) (Kd.V_far (p := ⟨gb112, 4, none⟩) (Kd.V_far (p := ⟨gb112, 3, none⟩) (Kd.V_far (p := ⟨gb112, 2, none⟩) (Kd.V_far (p := ⟨gb112, 1, none⟩) (Kd.V_far (p := ⟨gb112, 0, none⟩) (Kd.V_mono HO_0.out (fun k_ hk => (⟨hk, hk.2⟩ : _ ∧ k_ ≠ gb112))) (fun _ hk => hk.2) (.int .u64 ((rd_T82 l0 x4_1).f0))) (fun _ hk => hk.2) (.bool ((rd_T82 l0 x4_1).f1))) (fun _ hk => hk.2) (.int .i64 ((rd_T82 l0 x4_1).f2))) (fun _ hk => hk.2) (.slice A111_3 ((rd_T82 l0 x4_1).f3).length c111_3)) (fun _ hk => hk.2) (.int .i64 ((rd_T82 l0 x4_1).f4))) (fun _ hk => hk.2) (.int .u64 ((rd_T82 l0 x4_1).f5))) (fun _ hk => ⟨hk.1.1.1, ⟨hk.1.1.2, hk.1.2⟩⟩)))⟩; have n1_ : Aside0 (Kd.N k86 86 w7 w.heap.size (fun k_ => (P0_ k_ ∨ w.heap.size ≤ k_) ∧ k_ ≠ gb112) u3 x3_1) := ⟨(by rw [hw]; exact (by (with_reducible repeat (first | apply Kd.N_alloc | apply Kd.N_drewN | apply Kd.N_drew)); exact Kd.N_mono (Kd.N_far (p := ⟨gb112, 5, none⟩) (Kd.N_far (p := ⟨gb112, 4, none⟩) (Kd.N_far (p := ⟨gb112, 3, none⟩) (Kd.N_far (p := ⟨gb112, 2, none⟩) (Kd.N_far (p := ⟨gb112, 1, none⟩) (Kd.N_far (p := ⟨gb112, 0, none⟩) (Kd.N_mono HO_3.out (fun k_ hk => (⟨hk, hk.2⟩ : _ ∧ k_ ≠ gb112))) (fun _ hk => hk.2) (.int .u64 ((rd_T82 l0 x4_1).f0))) (fun _ hk => hk.2) (.bool ((rd_T82 l0 x4_1).f1))) (fun _ hk => hk.2) (.int .i64 ((rd_T82 l0 x4_1).f2))) (fun _ hk => hk.2) (.slice A111_3 ((rd_T82 l0 x4_1).f3).length c111_3)) (fun _ hk => hk.2) (.int .i64 ((rd_T82 l0 x4_1).f4))) (fun _ hk => hk.2) (.int .u64 ((rd_T82 l0 x4_1).f5))) (fun _ hk => ⟨hk.1.1, hk.1.2⟩)))⟩; have n2_ : Aside0 (Kd.V (Kd.int .u8) 5 w7 w.heap.size (fun k_ => (P0_ k_ ∨ w.heap.size ≤ k_) ∧ some k_ ≠ (u3 : Value).ownBlock ∧ k_ ≠ gb112) (.slice A111_3 ((rd_T82 l0 x4_1).f3).length c111_3) ((rd_T82 l0 x4_1).f3)) := ⟨(by rw [hw]; exact (by (with_reducible repeat (first | apply Kd.V_alloc | apply Kd.V_drewN | apply Kd.V_drew)); exact Kd.V_mono (Kd.V_far (p := ⟨gb112, 5, none⟩) (Kd.V_far (p := ⟨gb112, 4, none⟩) (Kd.V_far (p := ⟨gb112, 3, none⟩) (Kd.V_far (p := ⟨gb112, 2, none⟩) (Kd.V_far (p := ⟨gb112, 1, none⟩) (Kd.V_far (p := ⟨gb112, 0, none⟩) (Kd.V_mono HL111_3.out (fun k_ hk => (⟨hk, hk.2⟩ : _ ∧ k_ ≠ gb112))) (fun _ hk => hk.2) (.int .u64 ((rd_T82 l0 x4_1).f0))) (fun _ hk => hk.2) (.bool ((rd_T82 l0 x4_1).f1))) (fun _ hk => hk.2) (.int .i64 ((rd_T82 l0 x4_1).f2))) (fun _ hk => hk.2) (.slice A111_3 ((rd_T82 l0 x4_1).f3).length c111_3)) (fun _ hk => hk.2) (.int .i64 ((rd_T82 l0 x4_1).f4))) (fun _ hk => hk.2) (.int .u64 ((rd_T82 l0 x4_1).f5))) (fun _ hk => ⟨hk.1.1.1, ⟨hk.1.1.2, hk.1.2⟩⟩)))⟩; have n3_ : Aside0 (w7.heap[gb112]? = some (.cells #[.int .u64 ((rd_T82 l0 x4_1).f0), .bool ((rd_T82 l0 x4_1).f1), .int .i64 ((rd_T82 l0 x4_1).f2), .slice A111_3 ((rd_T82 l0 x4_1).f3).length c111_3, .int .i64 ((rd_T82 l0 x4_1).f4), .int .u64 ((rd_T82 l0 x4_1).f5)] 82 (0, 0))) := ⟨(by rw [hw]; exact (by (with_reducible repeat (first | refine blk_drewN ?_ _ | refine blk_drew ?_ | refine blk_alloc ?_ _)); refine blk_put (cs := #[.int .u64 ((rd_T82 l0 x4_1).f0), .bool ((rd_T82 l0 x4_1).f1), .int .i64 ((rd_T82 l0 x4_1).f2), .slice A111_3 ((rd_T82 l0 x4_1).f3).length c111_3, .int .i64 ((rd_T82 l0 x4_1).f4), .int .u64 0]) ?_ 5 _ rfl; (with_reducible repeat (first | refine blk_drewN ?_ _ | refine blk_drew ?_ | refine blk_alloc ?_ _)); refine blk_put (cs := #[.int .u64 ((rd_T82 l0 x4_1).f0), .bool ((rd_T82 l0 x4_1).f1), .int .i64 ((rd_T82 l0 x4_1).f2), .slice A111_3 ((rd_T82 l0 x4_1).f3).length c111_3, .int .i64 0, .int .u64 0]) ?_ 4 _ rfl; (with_reducible repeat (first | refine blk_drewN ?_ _ | refine blk_drew ?_ | refine blk_alloc ?_ _)); refine blk_put (cs := #[.int .u64 ((rd_T82 l0 x4_1).f0), .bool ((rd_T82 l0 x4_1).f1), .int .i64 ((rd_T82 l0 x4_1).f2), .slice none 0 0, .int .i64 0, .int .u64 0]) ?_ 3 _ rfl; (with_reducible repeat (first | refine blk_drewN ?_ _ | refine blk_drew ?_ | refine blk_alloc ?_ _)); refine blk_put (cs := #[.int .u64 ((rd_T82 l0 x4_1).f0), .bool ((rd_T82 l0 x4_1).f1), .int .i64 0, .slice none 0 0, .int .i64 0, .int .u64 0]) ?_ 2 _ rfl; (with_reducible repeat (first | refine blk_drewN ?_ _ | refine blk_drew ?_ | refine blk_alloc ?_ _)); refine blk_put (cs := #[.int .u64 ((rd_T82 l0 x4_1).f0), .bool false, .int .i64 0, .slice none 0 0, .int .i64 0, .int .u64 0]) ?_ 1 _ rfl; (with_reducible repeat (first | refine blk_drewN ?_ _ | refine blk_drew ?_ | refine blk_alloc ?_ _)); refine blk_put (cs := #[.int .u64 0, .bool false, .int .i64 0, .slice none 0 0, .int .i64 0, .int .u64 0]) ?_ 0 _ rfl; (with_reducible repeat (first | refine blk_drewN ?_ _ | refine blk_drew ?_ | refine blk_alloc ?_ _)); exact BK112.out))⟩; have n4_ : Aside0 (Below w.heap.size w w7) := ⟨(by rw [hw]; exact (by repeat (first | (with_reducible first | exact HB.out | apply below_alloc | apply pw_below_drewN | apply below_drew1 | refine below_set ?_ GE112.out) | exact HB.out)))⟩; clear hw; clear HO_0; clear HO_3; clear HL111_3; clear BK112; clear HB; have HO_0 := n0_; have HO_3 := n1_; have HL111_3 := n2_; have BK112 := n3_; have HB := n4_; clear n0_ n1_ n2_ n3_ n4_; have hcz8_0 : w7.cell? ⟨gb112, 0, none⟩ = some (.int .u64 ((rd_T82 l0 x4_1).f0)) := (blk_cell BK112.out 0).trans rfl; have hcz8_1 : w7.cell? ⟨gb112, 1, none⟩ = some (.bool ((rd_T82 l0 x4_1).f1)) := (blk_cell BK112.out 1).trans rfl; have hcz8_2 : w7.cell? ⟨gb112, 2, none⟩ = some (.int .i64 ((rd_T82 l0 x4_1).f2)) := (blk_cell BK112.out 2).trans rfl; have hcz8_3 : w7.cell? ⟨gb112, 3, none⟩ = some (.slice A111_3 ((rd_T82 l0 x4_1).f3).length c111_3) := (blk_cell BK112.out 3).trans rfl; have hcz8_4 : w7.cell? ⟨gb112, 4, none⟩ = some (.int .i64 ((rd_T82 l0 x4_1).f4)) := (blk_cell BK112.out 4).trans rfl; have hcz8_5 : w7.cell? ⟨gb112, 5, none⟩ = some (.int .u64 ((rd_T82 l0 x4_1).f5)) := (blk_cell BK112.out 5).trans rfl; have hfz8_0 := blk_frozen BK112.out 0; have hfz8_1 := blk_frozen BK112.out 1; have hfz8_2 := blk_frozen BK112.out 2; have hfz8_3 := blk_frozen BK112.out 3; have hfz8_4 := blk_frozen BK112.out 4; have hfz8_5 := blk_frozen BK112.out 5) | ((with_reducible refine gate_builtin (b := .append) (xs := #[.tmp 16, .tmp 30]) rfl ?_); at_builtin; refine Kd.N_append k86 (w0 := w) w.heap.size rfl (.tmp 16) (.tmp 30) 29 86 (.agg #[(.int .u64 0), (.bool false), (.int .i64 0), (.slice none 0 0), (.int .i64 0), (.int .u64 0)]) 64 rfl Try.underlying29 info86 rfl (by decide) (by omega) u3 x3_1 (⟨(rd_T82 l0 x4_1).f0, (rd_T82 l0 x4_1).f1, (rd_T82 l0 x4_1).f2, (rd_T82 l0 x4_1).f3, (rd_T82 l0 x4_1).f4, (rd_T82 l0 x4_1).f5⟩ : S86) [.int .u64 ((rd_T82 l0 x4_1).f0), .bool ((rd_T82 l0 x4_1).f1), .int .i64 ((rd_T82 l0 x4_1).f2), .slice A111_3 ((rd_T82 l0 x4_1).f3).length c111_3, .int .i64 ((rd_T82 l0 x4_1).f4), .int .u64 ((rd_T82 l0 x4_1).f5)] (fun k_ => (P0_ k_ ∨ w.heap.size ≤ k_) ∧ k_ ≠ gb112) (fun k_ => ((fun k_ => (P0_ k_ ∨ w.heap.size ≤ k_) ∧ k_ ≠ gb112)) k_ ∧ some k_ ≠ (u3 : Value).ownBlock) rfl rfl ?aP (fun _ hk => hk) ?aF ?aO ?aB ?aS ?aL ?_; (case aP => exact (k86_mkF _ _ (⟨(rd_T82 l0 x4_1).f0, (rd_T82 l0 x4_1).f1, (rd_T82 l0 x4_1).f2, (rd_T82 l0 x4_1).f3, (rd_T82 l0 x4_1).f4, (rd_T82 l0 x4_1).f5⟩ : S86) (Kd.V_reads' (Kd.V_mono (ok' := (fun k_ => ((fun k_ => (P0_ k_ ∨ w.heap.size ≤ k_) ∧ k_ ≠ gb112)) k_ ∧ some k_ ≠ (u3 : Value).ownBlock)) (HL111_3.out) (fun k_ hk => ⟨⟨hk.1, hk.2.2⟩, hk.2.1⟩))).2.1 (Kd.V_F (Kd.V_mono (ok' := (fun k_ => ((fun k_ => (P0_ k_ ∨ w.heap.size ≤ k_) ∧ k_ ≠ gb112)) k_ ∧ some k_ ≠ (u3 : Value).ownBlock)) (HL111_3.out) (fun k_ hk => ⟨⟨hk.1, hk.2.2⟩, hk.2.1⟩))))); (case aB => exact (by repeat (first | (with_reducible first | exact HB.out | apply below_alloc | apply pw_below_drewN | apply below_drew1 | refine below_set ?_ GE112.out) | exact HB.out))); (case aF => exact (fun k_ hk => ⟨(.inr (Nat.le_trans (below_size (by repeat (first | (with_reducible first | exact HB.out | apply below_alloc | apply pw_below_drewN | apply below_drew1 | refine below_set ?_ GE112.out) | exact HB.out))) hk)), Kd.freshB (g := gb112) (o := .cells #[.int .u64 ((rd_T82 l0 x4_1).f0), .bool ((rd_T82 l0 x4_1).f1), .int .i64 ((rd_T82 l0 x4_1).f2), .slice A111_3 ((rd_T82 l0 x4_1).f3).length c111_3, .int .i64 ((rd_T82 l0 x4_1).f4), .int .u64 ((rd_T82 l0 x4_1).f5)] 82 (0, 0)) (by (with_reducible repeat (first | refine blk_drewN ?_ _ | refine blk_drew ?_ | refine blk_alloc ?_ _)); exact BK112.out) k_ hk⟩)); (case aO => exact (by (with_reducible repeat (first | apply Kd.N_alloc | apply Kd.N_drewN | apply Kd.N_drew)); exact HO_3.out)); (case aS => exact (below_size (by repeat (first | (with_reducible first | exact HB.out | apply below_alloc | apply pw_below_drewN | apply below_drew1 | refine below_set ?_ GE112.out) | exact HB.out)))); (case aL => have := LMc4.out; omega); intro v114 w9 ho hb hg hat; rw [← Ny113.out] at ho; have n0_ := Aside0.mk (Kd.V_afterv (ok := (fun k_ => (P0_ k_ ∨ w.heap.size ≤ k_) ∧ k_ ≠ gb112)) (by (with_reducible repeat (first | apply Kd.V_alloc | apply Kd.V_drewN | apply Kd.V_drew)); exact Kd.V_mono HO_0.out (fun _ hk => ⟨⟨hk.1, hk.2.2⟩, hk.2.1⟩)) hg hat); have n1_ := Aside0.mk (Kd.V_afterv (ok := (fun k_ => (P0_ k_ ∨ w.heap.size ≤ k_) ∧ k_ ≠ gb112)) (by (with_reducible repeat (first | apply Kd.V_alloc | apply Kd.V_drewN | apply Kd.V_drew)); exact Kd.V_mono HL111_3.out (fun _ hk => ⟨⟨hk.1, hk.2.2⟩, hk.2.1⟩)) hg hat); have n2_ := Aside0.mk (blk_grown (g := gb112) (o := .cells #[.int .u64 ((rd_T82 l0 x4_1).f0), .bool ((rd_T82 l0 x4_1).f1), .int .i64 ((rd_T82 l0 x4_1).f2), .slice A111_3 ((rd_T82 l0 x4_1).f3).length c111_3, .int .i64 ((rd_T82 l0 x4_1).f4), .int .u64 ((rd_T82 l0 x4_1).f5)] 82 (0, 0)) (by (with_reducible repeat (first | refine blk_drewN ?_ _ | refine blk_drew ?_ | refine blk_alloc ?_ _)); exact BK112.out) hg (Kd.N_ne HO_3.out BK112.out (by decide))); have n3_ := Aside0.mk (hb); have n4_ := Aside0.mk (ho); clear HO_0; clear HL111_3; clear BK112; clear HB; clear HO_3; have HO_0 := n0_; have HL111_3 := n1_; have BK112 := n2_; have HB := n3_; have HO115 := n4_; clear n0_ n1_ n2_ n3_ n4_; clear ho hb hg hat))
            go_roundg k1
            case measure => have := HK1.out; omega
            case rel => exact ⟨(y113), (wrap64 (x4_1 + 1)), (by first | rfl | (simp; done) | (simp [*]; done)), H', ⟨by have := HK1.out; omega⟩, ⟨by (with_reducible repeat (first | apply Kd.V_alloc | apply Kd.V_drewN | apply Kd.V_drew)); exact Kd.V_mono HO_0.out (fun _ hk => ⟨hk.1.1, hk.2⟩)⟩, ⟨by (with_reducible repeat (first | apply Kd.N_alloc | apply Kd.N_drewN | apply Kd.N_drew)); exact Kd.N_mono HO115.out (fun _ hk => hk.1)⟩, ⟨by repeat (first | (with_reducible first | exact HB.out | apply below_alloc | apply pw_below_drewN | apply below_drew1 | refine below_set ?_ GE112.out) | exact HB.out)⟩⟩
          · rw [if_neg c4] at H
            exact absurd H (by simp)
        · rw [if_neg c3] at H
          exact absurd H (by simp)
      · rw [if_neg c2] at H
        have c2b0 : decide (x4_1 < (l0.length : Int)) = false := decide_eq_false c2
        clear c2
        obtain rfl := Option.some.inj H
        go_wp2
        go_ret
        exact ⟨_, by first | rfl | (simp [errW_none, errW_some] <;> rfl) | (simp [*, errW_none, errW_some] <;> rfl), by (with_reducible repeat (first | apply Kd.N_alloc | apply Kd.N_drewN | apply Kd.N_drew)); exact HO_3.out, by repeat (first | (with_reducible first | exact HB.out | apply below_alloc | apply pw_below_drewN | apply below_drew1) | exact HB.out)⟩

/-! ### avocetref14_Words: function 24 -/
def avocetref14_Words.l0 : Nat → List Int → List Int → Int → Option (Bool)
  | 0, _, _, _ => none
  | k + 1, x0, x1, x5 => if x5 < (x0.length : Int) then (if 0 ≤ x5 then (if x5 < (x1.length : Int) then (if (rd x0 x5) = (rd x1 x5) then (avocetref14_Words.l0 k x0 x1 (wrap64 (x5 + 1))) else (some false)) else (none)) else (none)) else (some true)
def avocetref14_Words.f (k : Nat) (l0 : List Int) (l1 : List Int) : Option (Bool) := if (l0.length : Int) = (l1.length : Int) then (avocetref14_Words.l0 k l0 l1 0) else (some false)
theorem avocetref14_Words.mono_l : ∀ k, (∀ y0 y1 y2, LeO (avocetref14_Words.l0 k y0 y1 y2) (avocetref14_Words.l0 (k + 1) y0 y1 y2))
  | 0 => fun _ _ _ r h => by simp [avocetref14_Words.l0] at h
  | k + 1 => by
    have ih0 := avocetref14_Words.mono_l k
    · intro y0 y1 y2
      unfold avocetref14_Words.l0
      repeat' first
      | (with_reducible exact ih0 _ _ _)
      | (with_reducible exact LeO.refl _)
      | (with_reducible exact LeO.none _)
      | (with_reducible refine LeO.ite ?_ ?_)
      | (with_reducible refine LeO.bind ?_ (fun _ => ?_))
      | exact ih0 _ _ _
      | exact LeO.none _
      | refine LeO.ite ?_ ?_
      | refine LeO.bind ?_ (fun _ => ?_)
theorem avocetref14_Words.mono : ∀ a0 a1 k, LeO (avocetref14_Words.f k a0 a1) (avocetref14_Words.f (k + 1) a0 a1) := by
  intro a0 a1 k
  have ih0 := avocetref14_Words.mono_l k
  unfold avocetref14_Words.f
  repeat' first
      | (with_reducible exact ih0 _ _ _)
      | (with_reducible exact LeO.refl _)
      | (with_reducible exact LeO.none _)
      | (with_reducible refine LeO.ite ?_ ?_)
      | (with_reducible refine LeO.bind ?_ (fun _ => ?_))
      | exact ih0 _ _ _
      | exact LeO.none _
      | refine LeO.ite ?_ ?_
      | refine LeO.bind ?_ (fun _ => ?_)
set_option maxHeartbeats 8000000 in
set_option maxRecDepth 100000 in
theorem avocetref14_Words.calls (k : Nat) (A0 : Option Addr) (c0 : Nat) (l0 : List Int) (A1 : Option Addr) (c1 : Nat) (l1 : List Int) (r : Bool) (w : World) (hr0 : Kd.C (Kd.int .u64) w A0 l0.length l0) (hc0 : l0.length ≤ c0) (hr1 : Kd.C (Kd.int .u64) w A1 l1.length l1) (hc1 : l1.length ≤ c1) (h : avocetref14_Words.f k l0 l1 = some r) :
    Calls Try.prog 24 #[.slice A0 l0.length c0, .slice A1 l1.length c1] w fun e w' => e = .returned (.bool r) ∧ Drawn0 w w' := by
  have HR0 := Aside0.mk hr0
  have HC0 := Aside0.mk hc0
  clear hr0 hc0
  have HR1 := Aside0.mk hr1
  have HC1 := Aside0.mk hc1
  clear hr1 hc1
  have H : (if (l0.length : Int) = (l1.length : Int) then (avocetref14_Words.l0 k l0 l1 0) else (some false)) = some r := h
  clear h
  by_cases c3 : (l0.length : Int) = (l1.length : Int)
  · rw [if_pos c3] at H
    have c3b0 : ((l0.length : Int) == (l1.length : Int)) = true := beq_iff_eq.mpr c3
    have c3b1 : ((l0.length : Int) != (l1.length : Int)) = false := bne_eq_false_iff_eq.mpr c3
    have c3b2 : (l0.length == l1.length) = true := by first | simpa using c3 | (simp at c3 ⊢; omega)
    clear c3
    have H' := Aside0.mk H
    clear H
    go_enter Try.func24, Try.ntmps24
    go_wp2
    repeat (go_quiet (fail); try go_wp2)
    go_loopg [5] k (fun kq v5 w' => ∃ (x5_1 : Int), v5 = .int .i64 x5_1 ∧ Aside0 (avocetref14_Words.l0 kq l0 l1 x5_1 = some r) ∧ Aside0 (kq ≤ k) ∧ Drawn0 w w')
    case atStart => exact ⟨(0), (by first | rfl | (simp; done) | (simp [*]; done)), H', ⟨Nat.le_refl _⟩, by repeat (first | exact Drawn0.refl _ | apply Drawn0.step)⟩
    case round =>
      clear H'
      try clear c1
      try clear c2
      try clear p2
      try clear c3
      try clear c3b0
      try clear c3b1
      try clear c3b2
      obtain ⟨x5_1, rfl, HA, HK1, ⟨m1, rfl⟩⟩ := hrel
      cases gk with
      | zero => exact absurd HA.out (by simp [avocetref14_Words.l0])
      | succ k1 =>
        have H := HA.out
        clear HA
        simp only [avocetref14_Words.l0] at H
        by_cases c4 : x5_1 < (l0.length : Int)
        · rw [if_pos c4] at H
          have c4b0 : decide (x5_1 < (l0.length : Int)) = true := decide_eq_true c4
          clear c4
          by_cases c5 : 0 ≤ x5_1
          · rw [if_pos c5] at H
            have c5b0 : decide (0 ≤ x5_1) = true := decide_eq_true c5
            clear c5
            by_cases c6 : x5_1 < (l1.length : Int)
            · rw [if_pos c6] at H
              have c6b0 : decide (x5_1 < (l1.length : Int)) = true := decide_eq_true c6
              clear c6
              by_cases c7 : (rd l0 x5_1) = (rd l1 x5_1)
              · rw [if_pos c7] at H
                have c7b0 : ((rd l0 x5_1) == (rd l1 x5_1)) = true := beq_iff_eq.mpr c7
                have c7b1 : ((rd l0 x5_1) != (rd l1 x5_1)) = false := bne_eq_false_iff_eq.mpr c7
                clear c7
                have H' := Aside0.mk H
                clear H
                have p116 : 0 ≤ (x5_1 : Int) := of_decide_eq_true (by first | (with_reducible assumption) | assumption)
                have q116 : x5_1 < (l0.length : Int) := of_decide_eq_true (by first | (with_reducible assumption) | assumption)
                obtain ⟨ad116, e116, hx116_0⟩ := Kd.at_int HR0.out x5_1 p116 q116
                cases e116
                replace p116 := eq_true p116
                replace q116 := eq_true q116
                have p117 : 0 ≤ (x5_1 : Int) := of_decide_eq_true (by first | (with_reducible assumption) | assumption)
                have q117 : x5_1 < (l1.length : Int) := of_decide_eq_true (by first | (with_reducible assumption) | assumption)
                obtain ⟨ad117, e117, hx117_0⟩ := Kd.at_int HR1.out x5_1 p117 q117
                cases e117
                replace p117 := eq_true p117
                replace q117 := eq_true q117
                go_wp2
                repeat (go_quiet (fail); try go_wp2)
                go_roundg k1
                case measure => have := HK1.out; omega
                case rel => exact ⟨(wrap64 (x5_1 + 1)), (by first | rfl | (simp; done) | (simp [*]; done)), H', ⟨by have := HK1.out; omega⟩, by repeat (first | exact Drawn0.refl _ | apply Drawn0.step)⟩
              · rw [if_neg c7] at H
                have c7b0 : ((rd l0 x5_1) == (rd l1 x5_1)) = false := beq_eq_false_iff_ne.mpr c7
                have c7b1 : ((rd l0 x5_1) != (rd l1 x5_1)) = true := bne_iff_ne.mpr c7
                obtain rfl := Option.some.inj H
                have p116 : 0 ≤ (x5_1 : Int) := of_decide_eq_true (by first | (with_reducible assumption) | assumption)
                have q116 : x5_1 < (l0.length : Int) := of_decide_eq_true (by first | (with_reducible assumption) | assumption)
                obtain ⟨ad116, e116, hx116_0⟩ := Kd.at_int HR0.out x5_1 p116 q116
                cases e116
                replace p116 := eq_true p116
                replace q116 := eq_true q116
                have p117 : 0 ≤ (x5_1 : Int) := of_decide_eq_true (by first | (with_reducible assumption) | assumption)
                have q117 : x5_1 < (l1.length : Int) := of_decide_eq_true (by first | (with_reducible assumption) | assumption)
                obtain ⟨ad117, e117, hx117_0⟩ := Kd.at_int HR1.out x5_1 p117 q117
                cases e117
                replace p117 := eq_true p117
                replace q117 := eq_true q117
                go_wp2
                repeat (go_quiet (fail); try go_wp2)
                go_ret
                exact ⟨by first | rfl | (simp; done) | (simp [*]; done), by repeat (first | exact Drawn0.refl _ | apply Drawn0.step)⟩
            · rw [if_neg c6] at H
              exact absurd H (by simp)
          · rw [if_neg c5] at H
            exact absurd H (by simp)
        · rw [if_neg c4] at H
          have c4b0 : decide (x5_1 < (l0.length : Int)) = false := decide_eq_false c4
          clear c4
          obtain rfl := Option.some.inj H
          go_wp2
          repeat (go_quiet (fail); try go_wp2)
          go_ret
          exact ⟨by first | rfl | (simp; done) | (simp [*]; done), by repeat (first | exact Drawn0.refl _ | apply Drawn0.step)⟩
  · rw [if_neg c3] at H
    have c3b0 : ((l0.length : Int) == (l1.length : Int)) = false := beq_eq_false_iff_ne.mpr c3
    have c3b1 : ((l0.length : Int) != (l1.length : Int)) = true := bne_iff_ne.mpr c3
    have c3b2 : (l0.length == l1.length) = false := by first | simpa using c3 | (simp at c3 ⊢; omega)
    obtain rfl := Option.some.inj H
    go_enter Try.func24, Try.ntmps24
    go_wp2
    repeat (go_quiet (fail); try go_wp2)
    go_ret
    exact ⟨by first | rfl | (simp; done) | (simp [*]; done), by repeat (first | exact Drawn0.refl _ | apply Drawn0.step)⟩

-- NOT PRINTED: function 13 (avocetref16_Same)

end Go.Proofs.Ytbjglicdamenhaa.G
