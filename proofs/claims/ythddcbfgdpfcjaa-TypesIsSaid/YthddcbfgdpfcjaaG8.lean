-- Made by gprint.py (mine) over the kit's print.py, out of the translation; parts of it typed by hand.
import Derived.Test.YthddcbfgdpfcjaaG0
import Derived.Test.YthddcbfgdpfcjaaG1
import Derived.Test.YthddcbfgdpfcjaaG2
import Derived.Test.YthddcbfgdpfcjaaG3
import Derived.Test.YthddcbfgdpfcjaaG4
import Derived.Test.YthddcbfgdpfcjaaG5
import Derived.Test.YthddcbfgdpfcjaaG6
import Derived.Test.YthddcbfgdpfcjaaG7
namespace Go.Proofs.Ythddcbfgdpfcjaa.G
open Go.RowKit Go.Proofs.YthddcbfgdpfcjaaW.PrintWords Go.Proofs.YthddcbfgdpfcjaaW.PrintLast Go.Proofs.YthddcbfgdpfcjaaW.PrintMore
attribute [local go_sem] max2_int min2_int max_two min_two max_three min_three max_four min_four   -- for this text's walks alone
set_option linter.unusedVariables false
set_option linter.unusedSimpArgs false

attribute [local go_sem high] eqA29
/-! ### avocetlaw04_TypesIs: function 8 -/
mutual
def avocetlaw04_TypesIs.j0 : Nat → List Int → Int → Bool → Bool → List Int → List Int → List Int → List Int → Int → Int → Bool → Int → Int → Bool → Option (Bool)
  | 0, _, _, _, _, _, _, _, _, _, _, _, _, _, _ => none
  | k + 1, x0, x1, x13, x49, x331000, x331001, x332000, x332001, x333000, x333001, x333002, x334000, x334001, x334002 => if x49 = true then (some x13) else ((types_Val.f k x0 x1).bind fun bt337 => ((avocetref04_Val.f k x0 x1).bind fun bt340 => ((types_Func.f k x0 x1).bind fun bt343 => ((avocetref04_Func.f k x0 x1).bind fun bt352 => ((types_Limits.f x0 x1).bind fun bt361 => ((avocetref04_Limits.f k x0 x1).bind fun bt367 => (if bt337.1 = bt340.1 then (if bt337.2.1 = bt340.2.1 then (if bt337.2.2 = bt340.2.2 then ((avocetref04_Same.f bt343.1 bt343.2.1 bt352.1 bt352.2.1).bind fun t373 => (if t373 = true then (if bt343.2.2.1 = bt352.2.2.1 then (if bt343.2.2.2 = bt352.2.2.2 then (if (!(bt361.1 == bt367.1) || (!(bt361.2.1 == bt367.2.1) || (!(bt361.2.2.1 == bt367.2.2.1)))) = true then (avocetlaw04_TypesIs.j1 k x0 x13 true x331000 x331001 x332000 x332001 x333000 x333001 x333002 x334000 x334001 x334002) else (if bt361.2.2.2.1 = bt367.2.2.2.1 then (avocetlaw04_TypesIs.j1 k x0 x13 (bt361.2.2.2.2 != bt367.2.2.2.2) x331000 x331001 x332000 x332001 x333000 x333001 x333002 x334000 x334001 x334002) else (avocetlaw04_TypesIs.j1 k x0 x13 true x331000 x331001 x332000 x332001 x333000 x333001 x333002 x334000 x334001 x334002))) else (avocetlaw04_TypesIs.j1 k x0 x13 true x331000 x331001 x332000 x332001 x333000 x333001 x333002 x334000 x334001 x334002)) else (avocetlaw04_TypesIs.j1 k x0 x13 true x331000 x331001 x332000 x332001 x333000 x333001 x333002 x334000 x334001 x334002)) else (avocetlaw04_TypesIs.j1 k x0 x13 true x331000 x331001 x332000 x332001 x333000 x333001 x333002 x334000 x334001 x334002))) else (avocetlaw04_TypesIs.j1 k x0 x13 true x331000 x331001 x332000 x332001 x333000 x333001 x333002 x334000 x334001 x334002)) else (avocetlaw04_TypesIs.j1 k x0 x13 true x331000 x331001 x332000 x332001 x333000 x333001 x333002 x334000 x334001 x334002)) else (avocetlaw04_TypesIs.j1 k x0 x13 true x331000 x331001 x332000 x332001 x333000 x333001 x333002 x334000 x334001 x334002))))))))
def avocetlaw04_TypesIs.j1 : Nat → List Int → Bool → Bool → List Int → List Int → List Int → List Int → Int → Int → Bool → Int → Int → Bool → Option (Bool)
  | 0, _, _, _, _, _, _, _, _, _, _, _, _, _ => none
  | k + 1, x0, x13, x136, x331000, x331001, x332000, x332001, x333000, x333001, x333002, x334000, x334001, x334002 => if x136 = true then (some false) else ((types_PutFunc.f k x0 x331000 x331001).bind fun bt374 => ((avocetref04_PutFunc.f k x0 x331000 x331001).bind fun bt378 => ((types_PutLimits.f k x0 x333000 x333001 x333002).bind fun bt382 => ((avocetref04_PutLimits.f k x0 x333000 x333001 x333002).bind fun bt386 => (if x13 = true then (if (strOfNums bt374.1).toList = (strOfNums bt378.1).toList then (if bt374.2 = bt378.2 then (if (strOfNums bt382.1).toList = (strOfNums bt386.1).toList then (if bt382.2 = bt386.2 then ((types_Sane.f x331000 x331001).bind fun t390 => ((avocetref04_Sane.f k x331000 x331001).bind fun t391 => (if (t390 == t391) = true then ((types_Same.f x331000 x331001 x332000 x332001).bind fun t392 => ((avocetref04_Same.f x331000 x331001 x332000 x332001).bind fun t393 => (if (t392 == t393) = true then ((types_Within.f x333000 x333001 x333002 x334000 x334001 x334002).bind fun t394 => ((avocetref04_Within.f x333000 x333001 x333002 x334000 x334001 x334002).bind fun t395 => (some (t394 == t395)))) else (some false)))) else (some false)))) else (some false)) else (some false)) else (some false)) else (some false)) else (some false))))))
end
def avocetlaw04_TypesIs.f (k : Nat) (l0 : List Int) (a1 : Int) (l2_0 : List Int) (l2_1 : List Int) (l3_0 : List Int) (l3_1 : List Int) (a4_0 : Int) (a4_1 : Int) (a4_2 : Bool) (a5_0 : Int) (a5_1 : Int) (a5_2 : Bool) : Option (Bool) := (avocetlaw04_awake.f k).bind fun t334 => (if (l0.length : Int) > 500 then (avocetlaw04_TypesIs.j0 k l0 a1 t334 true l2_0 l2_1 l3_0 l3_1 a4_0 a4_1 a4_2 a5_0 a5_1 a5_2) else ((avocetlaw04_small.f l2_0 l2_1).bind fun t335 => (if t335 = true then ((avocetlaw04_small.f l3_0 l3_1).bind fun t336 => (avocetlaw04_TypesIs.j0 k l0 a1 t334 (!t336) l2_0 l2_1 l3_0 l3_1 a4_0 a4_1 a4_2 a5_0 a5_1 a5_2)) else (avocetlaw04_TypesIs.j0 k l0 a1 t334 true l2_0 l2_1 l3_0 l3_1 a4_0 a4_1 a4_2 a5_0 a5_1 a5_2))))
theorem avocetlaw04_TypesIs.mono_l : ∀ k, (∀ y0 y1 y2 y3 y4 y5 y6 y7 y8 y9 y10 y11 y12 y13, LeO (avocetlaw04_TypesIs.j0 k y0 y1 y2 y3 y4 y5 y6 y7 y8 y9 y10 y11 y12 y13) (avocetlaw04_TypesIs.j0 (k + 1) y0 y1 y2 y3 y4 y5 y6 y7 y8 y9 y10 y11 y12 y13)) ∧ (∀ y0 y1 y2 y3 y4 y5 y6 y7 y8 y9 y10 y11 y12, LeO (avocetlaw04_TypesIs.j1 k y0 y1 y2 y3 y4 y5 y6 y7 y8 y9 y10 y11 y12) (avocetlaw04_TypesIs.j1 (k + 1) y0 y1 y2 y3 y4 y5 y6 y7 y8 y9 y10 y11 y12))
  | 0 => ⟨fun _ _ _ _ _ _ _ _ _ _ _ _ _ _ r h => by simp [avocetlaw04_TypesIs.j0] at h, fun _ _ _ _ _ _ _ _ _ _ _ _ _ r h => by simp [avocetlaw04_TypesIs.j1] at h⟩
  | k + 1 => by
    obtain ⟨ih0, ih1⟩ := avocetlaw04_TypesIs.mono_l k
    refine ⟨?_, ?_⟩
    · intro y0 y1 y2 y3 y4 y5 y6 y7 y8 y9 y10 y11 y12 y13
      unfold avocetlaw04_TypesIs.j0
      repeat' first
      | (with_reducible exact ih0 _ _ _ _ _ _ _ _ _ _ _ _ _ _)
      | (with_reducible exact ih1 _ _ _ _ _ _ _ _ _ _ _ _ _)
      | (with_reducible exact avocetlaw04_awake.mono _)
      | (with_reducible exact avocetref04_Func.mono _ _ _)
      | (with_reducible exact avocetref04_Limits.mono _ _ _)
      | (with_reducible exact avocetref04_PutFunc.mono _ _ _ _)
      | (with_reducible exact avocetref04_PutLimits.mono _ _ _ _ _)
      | (with_reducible exact avocetref04_Sane.mono _ _ _)
      | (with_reducible exact avocetref04_Val.mono _ _ _)
      | (with_reducible exact types_Func.mono _ _ _)
      | (with_reducible exact types_PutFunc.mono _ _ _ _)
      | (with_reducible exact types_PutLimits.mono _ _ _ _ _)
      | (with_reducible exact types_Val.mono _ _ _)
      | (with_reducible exact LeO.refl _)
      | (with_reducible exact LeO.none _)
      | (with_reducible refine LeO.ite ?_ ?_)
      | (with_reducible refine LeO.bind ?_ (fun _ => ?_))
      | exact ih0 _ _ _ _ _ _ _ _ _ _ _ _ _ _
      | exact ih1 _ _ _ _ _ _ _ _ _ _ _ _ _
      | exact avocetlaw04_awake.mono _
      | exact avocetref04_Func.mono _ _ _
      | exact avocetref04_Limits.mono _ _ _
      | exact avocetref04_PutFunc.mono _ _ _ _
      | exact avocetref04_PutLimits.mono _ _ _ _ _
      | exact avocetref04_Sane.mono _ _ _
      | exact avocetref04_Val.mono _ _ _
      | exact types_Func.mono _ _ _
      | exact types_PutFunc.mono _ _ _ _
      | exact types_PutLimits.mono _ _ _ _ _
      | exact types_Val.mono _ _ _
      | exact LeO.none _
      | refine LeO.ite ?_ ?_
      | refine LeO.bind ?_ (fun _ => ?_)
    · intro y0 y1 y2 y3 y4 y5 y6 y7 y8 y9 y10 y11 y12
      unfold avocetlaw04_TypesIs.j1
      repeat' first
      | (with_reducible exact ih0 _ _ _ _ _ _ _ _ _ _ _ _ _ _)
      | (with_reducible exact ih1 _ _ _ _ _ _ _ _ _ _ _ _ _)
      | (with_reducible exact avocetlaw04_awake.mono _)
      | (with_reducible exact avocetref04_Func.mono _ _ _)
      | (with_reducible exact avocetref04_Limits.mono _ _ _)
      | (with_reducible exact avocetref04_PutFunc.mono _ _ _ _)
      | (with_reducible exact avocetref04_PutLimits.mono _ _ _ _ _)
      | (with_reducible exact avocetref04_Sane.mono _ _ _)
      | (with_reducible exact avocetref04_Val.mono _ _ _)
      | (with_reducible exact types_Func.mono _ _ _)
      | (with_reducible exact types_PutFunc.mono _ _ _ _)
      | (with_reducible exact types_PutLimits.mono _ _ _ _ _)
      | (with_reducible exact types_Val.mono _ _ _)
      | (with_reducible exact LeO.refl _)
      | (with_reducible exact LeO.none _)
      | (with_reducible refine LeO.ite ?_ ?_)
      | (with_reducible refine LeO.bind ?_ (fun _ => ?_))
      | exact ih0 _ _ _ _ _ _ _ _ _ _ _ _ _ _
      | exact ih1 _ _ _ _ _ _ _ _ _ _ _ _ _
      | exact avocetlaw04_awake.mono _
      | exact avocetref04_Func.mono _ _ _
      | exact avocetref04_Limits.mono _ _ _
      | exact avocetref04_PutFunc.mono _ _ _ _
      | exact avocetref04_PutLimits.mono _ _ _ _ _
      | exact avocetref04_Sane.mono _ _ _
      | exact avocetref04_Val.mono _ _ _
      | exact types_Func.mono _ _ _
      | exact types_PutFunc.mono _ _ _ _
      | exact types_PutLimits.mono _ _ _ _ _
      | exact types_Val.mono _ _ _
      | exact LeO.none _
      | refine LeO.ite ?_ ?_
      | refine LeO.bind ?_ (fun _ => ?_)
theorem avocetlaw04_TypesIs.mono : ∀ a0 a1 a2 a3 a4 a5 a6 a7 a8 a9 a10 a11 k, LeO (avocetlaw04_TypesIs.f k a0 a1 a2 a3 a4 a5 a6 a7 a8 a9 a10 a11) (avocetlaw04_TypesIs.f (k + 1) a0 a1 a2 a3 a4 a5 a6 a7 a8 a9 a10 a11) := by
  intro a0 a1 a2 a3 a4 a5 a6 a7 a8 a9 a10 a11 k
  obtain ⟨ih0, ih1⟩ := avocetlaw04_TypesIs.mono_l k
  unfold avocetlaw04_TypesIs.f
  repeat' first
      | (with_reducible exact ih0 _ _ _ _ _ _ _ _ _ _ _ _ _ _)
      | (with_reducible exact ih1 _ _ _ _ _ _ _ _ _ _ _ _ _)
      | (with_reducible exact avocetlaw04_awake.mono _)
      | (with_reducible exact avocetref04_Func.mono _ _ _)
      | (with_reducible exact avocetref04_Limits.mono _ _ _)
      | (with_reducible exact avocetref04_PutFunc.mono _ _ _ _)
      | (with_reducible exact avocetref04_PutLimits.mono _ _ _ _ _)
      | (with_reducible exact avocetref04_Sane.mono _ _ _)
      | (with_reducible exact avocetref04_Val.mono _ _ _)
      | (with_reducible exact types_Func.mono _ _ _)
      | (with_reducible exact types_PutFunc.mono _ _ _ _)
      | (with_reducible exact types_PutLimits.mono _ _ _ _ _)
      | (with_reducible exact types_Val.mono _ _ _)
      | (with_reducible exact LeO.refl _)
      | (with_reducible exact LeO.none _)
      | (with_reducible refine LeO.ite ?_ ?_)
      | (with_reducible refine LeO.bind ?_ (fun _ => ?_))
      | exact ih0 _ _ _ _ _ _ _ _ _ _ _ _ _ _
      | exact ih1 _ _ _ _ _ _ _ _ _ _ _ _ _
      | exact avocetlaw04_awake.mono _
      | exact avocetref04_Func.mono _ _ _
      | exact avocetref04_Limits.mono _ _ _
      | exact avocetref04_PutFunc.mono _ _ _ _
      | exact avocetref04_PutLimits.mono _ _ _ _ _
      | exact avocetref04_Sane.mono _ _ _
      | exact avocetref04_Val.mono _ _ _
      | exact types_Func.mono _ _ _
      | exact types_PutFunc.mono _ _ _ _
      | exact types_PutLimits.mono _ _ _ _ _
      | exact types_Val.mono _ _ _
      | exact LeO.none _
      | refine LeO.ite ?_ ?_
      | refine LeO.bind ?_ (fun _ => ?_)
def avocetlaw04_TypesIs.T16 : Bool × List (List Nat × List Nat) := (true, [([], []), ([0], [0]), ([1], [1]), ([2, 1], [1, 2]), ([1], [1]), ([4, 1], [1, 4]), ([3, 5, 1], [1, 3, 5]), ([1, 6], [1, 6]), ([7, 1], [7]), ([8], [8]), ([8], [8]), ([9, 10, 8], [8, 9, 10]), ([8, 11], [8, 11]), ([12, 8], [12]), ([13], [13]), ([14, 13], [13, 14]), ([13], [13]), ([16, 13], [13, 16]), ([15, 17, 13], [13, 15, 17]), ([13, 18], [13, 18]), ([19, 13], [19]), ([20], [20]), ([20], [20]), ([21, 22, 20], [20, 21, 22]), ([20, 23], [20, 23]), ([24, 20], [24]), ([25], [25]), ([26, 25, 25], [25, 26]), ([25], [25]), ([28, 27, 25], [25, 28]), ([27, 29, 25], [25, 27, 29]), ([25, 30], [25, 30]), ([31, 29], [31]), ([32], [32]), ([32], [32]), ([33, 34, 32, 32], [32, 33, 34]), ([32], [32]), ([32], [32]), ([36, 37, 35, 32], [32, 36, 37]), ([35, 38, 32], [32, 35, 38]), ([32, 39], [32, 39]), ([40, 38], [40]), ([41], [41]), ([41], [41]), ([42, 43, 41, 41], [41, 42, 43]), ([41], [41]), ([41], [41]), ([45, 46, 44, 41], [41, 45, 46]), ([44, 47, 41], [41, 44, 47]), ([41, 48], [41, 48]), ([49, 47, 0, 1, 2, 3, 4, 5, 6, 7, 8, 9, 10, 11, 12, 13, 14, 15, 16, 17, 18, 19, 20, 21, 22, 23, 24, 25, 26, 27, 28, 29, 30, 31, 32, 33, 34, 35, 36, 37, 38, 39, 40, 41, 42, 43, 44, 45, 46, 47, 48, 49], [49])])
def avocetlaw04_TypesIs.B16 : List Nat := [0, 1, 3, 7, 3, 19, 63, 127, 255, 511, 511, 2047, 4095, 8191, 16383, 32767, 16383, 81919, 262143, 524287, 1048575, 2097151, 2097151, 8388607, 16777215, 33554431, 67108863, 134217727, 67108863, 536870911, 1073741823, 2147483647, 4294967295, 8589934591, 8589934591, 34359738367, 8589934591, 8589934591, 274877906943, 549755813887, 1099511627775, 2199023255551, 4398046511103, 4398046511103, 17592186044415, 4398046511103, 4398046511103, 140737488355327, 281474976710655, 562949953421311, 1125899906842623]
theorem avocetlaw04_TypesIs.tab16 : rtab .any (opsOf Try.f8 16) = avocetlaw04_TypesIs.T16 := by kernel_rfl
theorem avocetlaw04_TypesIs.bits16 : waitsOk avocetlaw04_TypesIs.T16.2 avocetlaw04_TypesIs.B16 = true := by kernel_rfl
set_option maxHeartbeats 8000000 in
set_option maxRecDepth 100000 in
theorem avocetlaw04_TypesIs.calls (k : Nat) (A0 : Option Addr) (c0 : Nat) (l0 : List Int) (a1 : Int) (A2_0 : Option Addr) (c2_0 : Nat) (l2_0 : List Int) (A2_1 : Option Addr) (c2_1 : Nat) (l2_1 : List Int) (A3_0 : Option Addr) (c3_0 : Nat) (l3_0 : List Int) (A3_1 : Option Addr) (c3_1 : Nat) (l3_1 : List Int) (a4_0 : Int) (a4_1 : Int) (a4_2 : Bool) (a5_0 : Int) (a5_1 : Int) (a5_2 : Bool) (r : Bool) (w : World) (hr0 : Kd.C (Kd.int .u8) w A0 l0.length l0) (hc0 : l0.length ≤ c0) (hr2_0 : Kd.C (Kd.int .u8) w A2_0 l2_0.length l2_0) (hc2_0 : l2_0.length ≤ c2_0) (hr2_1 : Kd.C (Kd.int .u8) w A2_1 l2_1.length l2_1) (hc2_1 : l2_1.length ≤ c2_1) (hr3_0 : Kd.C (Kd.int .u8) w A3_0 l3_0.length l3_0) (hc3_0 : l3_0.length ≤ c3_0) (hr3_1 : Kd.C (Kd.int .u8) w A3_1 l3_1.length l3_1) (hc3_1 : l3_1.length ≤ c3_1) (hr_ : r = true) (h : avocetlaw04_TypesIs.f k l0 a1 l2_0 l2_1 l3_0 l3_1 a4_0 a4_1 a4_2 a5_0 a5_1 a5_2 = some r) :
    Calls Try.prog 8 #[.slice A0 l0.length c0, .int .i64 a1, .agg #[.slice A2_0 l2_0.length c2_0, .slice A2_1 l2_1.length c2_1], .agg #[.slice A3_0 l3_0.length c3_0, .slice A3_1 l3_1.length c3_1], .agg #[.int .i64 a4_0, .int .i64 a4_1, .bool a4_2], .agg #[.int .i64 a5_0, .int .i64 a5_1, .bool a5_2]] w fun e w' => e = .returned (.bool r) ∧ Below w.heap.size w w' := by
  have HRT_ := Aside0.mk hr_
  clear hr_
  have hu33 := Try.underlying33
  have hu29 := Try.underlying29
  have HR0 := Aside0.mk hr0
  have HC0 := Aside0.mk hc0
  clear hr0 hc0
  have HR2_0 := Aside0.mk hr2_0
  have HC2_0 := Aside0.mk hc2_0
  clear hr2_0 hc2_0
  have HR2_1 := Aside0.mk hr2_1
  have HC2_1 := Aside0.mk hc2_1
  clear hr2_1 hc2_1
  have HR3_0 := Aside0.mk hr3_0
  have HC3_0 := Aside0.mk hc3_0
  clear hr3_0 hc3_0
  have HR3_1 := Aside0.mk hr3_1
  have HC3_1 := Aside0.mk hc3_1
  clear hr3_1 hc3_1
  have HB := Aside0.mk (Below.refl w.heap.size w)
  have H : ((avocetlaw04_awake.f k).bind fun t334 => (if (l0.length : Int) > 500 then (avocetlaw04_TypesIs.j0 k l0 a1 t334 true l2_0 l2_1 l3_0 l3_1 a4_0 a4_1 a4_2 a5_0 a5_1 a5_2) else ((avocetlaw04_small.f l2_0 l2_1).bind fun t335 => (if t335 = true then ((avocetlaw04_small.f l3_0 l3_1).bind fun t336 => (avocetlaw04_TypesIs.j0 k l0 a1 t334 (!t336) l2_0 l2_1 l3_0 l3_1 a4_0 a4_1 a4_2 a5_0 a5_1 a5_2)) else (avocetlaw04_TypesIs.j0 k l0 a1 t334 true l2_0 l2_1 l3_0 l3_1 a4_0 a4_1 a4_2 a5_0 a5_1 a5_2))))) = some r := h
  clear h
  replace H := Option.bind_eq_some_iff.mp H
  obtain ⟨t334, A70, H⟩ := H
  replace H : (if (l0.length : Int) > 500 then (avocetlaw04_TypesIs.j0 k l0 a1 t334 true l2_0 l2_1 l3_0 l3_1 a4_0 a4_1 a4_2 a5_0 a5_1 a5_2) else ((avocetlaw04_small.f l2_0 l2_1).bind fun t335 => (if t335 = true then ((avocetlaw04_small.f l3_0 l3_1).bind fun t336 => (avocetlaw04_TypesIs.j0 k l0 a1 t334 (!t336) l2_0 l2_1 l3_0 l3_1 a4_0 a4_1 a4_2 a5_0 a5_1 a5_2)) else (avocetlaw04_TypesIs.j0 k l0 a1 t334 true l2_0 l2_1 l3_0 l3_1 a4_0 a4_1 a4_2 a5_0 a5_1 a5_2)))) = some r := H
  have A7 := Aside0.mk A70
  clear A70
  have HC8 := Aside0.mk H
  clear H
  go_enter Try.func8, Try.ntmps8
  go_upto_region 2 with (first | ((with_reducible refine gate_dst (N := 8) rfl ?_); refine box_event ?hg (N := 8) ?hd (cs := #[.slice A2_0 l2_0.length c2_0, .slice A2_1 l2_1.length c2_1]) (t := 33) ?hr ?_; (case hd => rfl); (case hg => rfl); (case hr => first | (go_simp; done) | (go_simp; rfl)); intro gb330 hg w9 hbox hb; have n0_ := Aside0.mk (below_step (by repeat (first | (with_reducible first | exact HB.out | apply below_alloc | apply pw_below_drewN | apply below_drew1) | exact HB.out)) hb); have n1_ := Aside0.mk (hbox); have n2_ := Aside0.mk ((by rw [hg]; exact (below_size (by repeat (first | (with_reducible first | exact HB.out | apply below_alloc | apply pw_below_drewN | apply below_drew1) | exact HB.out))) : w.heap.size ≤ gb330)); have n3_ := Aside0.mk ((by rw [hg]; exact (below_size (by repeat (first | (with_reducible first | exact HB.out | apply below_alloc | apply pw_below_drewN | apply below_drew1) | exact HB.out))) : w.heap.size ≤ gb330)); clear HB; have HB := n0_; have BK330 := n1_; have GW330 := n2_; have GE330 := n3_; clear n0_ n1_ n2_ n3_; clear hb hbox hg) | ((with_reducible refine gate_dst (N := 9) rfl ?_); refine box_event ?hg (N := 9) ?hd (cs := #[.slice A3_0 l3_0.length c3_0, .slice A3_1 l3_1.length c3_1]) (t := 33) ?hr ?_; (case hd => rfl); (case hg => rfl); (case hr => first | (go_simp; done) | (go_simp; rfl)); intro gb331 hg w10 hbox hb; have n0_ := Aside0.mk (blk_below (g := gb330) (o := .cells #[.slice A2_0 l2_0.length c2_0, .slice A2_1 l2_1.length c2_1] 33 (0, 0)) (by (with_reducible repeat (first | refine blk_drewN ?_ _ | refine blk_drew ?_ | refine blk_alloc ?_ _)); exact BK330.out) hb); have n1_ := Aside0.mk (below_step (by repeat (first | (with_reducible first | exact HB.out | apply below_alloc | apply pw_below_drewN | apply below_drew1 | refine below_set ?_ GE330.out) | exact HB.out)) hb); have n2_ := Aside0.mk (hbox); have n3_ := Aside0.mk ((by rw [hg]; exact (below_size (by repeat (first | (with_reducible first | exact HB.out | apply below_alloc | apply pw_below_drewN | apply below_drew1 | refine below_set ?_ GE330.out) | exact HB.out))) : w.heap.size ≤ gb331)); have n4_ := Aside0.mk ((by rw [hg]; exact (below_size (by repeat (first | (with_reducible first | exact HB.out | apply below_alloc | apply pw_below_drewN | apply below_drew1 | refine below_set ?_ GE330.out) | exact HB.out))) : w.heap.size ≤ gb331)); have n5_ := Aside0.mk ((by rw [hg]; exact Nat.ne_of_lt (blk_lt (g := gb330) (o := .cells #[.slice A2_0 l2_0.length c2_0, .slice A2_1 l2_1.length c2_1] 33 (0, 0)) (by (with_reducible repeat (first | refine blk_drewN ?_ _ | refine blk_drew ?_ | refine blk_alloc ?_ _)); exact BK330.out)) : gb330 ≠ gb331)); have n6_ := Aside0.mk ((by rw [hg]; exact Nat.ne_of_gt (blk_lt (g := gb330) (o := .cells #[.slice A2_0 l2_0.length c2_0, .slice A2_1 l2_1.length c2_1] 33 (0, 0)) (by (with_reducible repeat (first | refine blk_drewN ?_ _ | refine blk_drew ?_ | refine blk_alloc ?_ _)); exact BK330.out)) : gb331 ≠ gb330)); clear BK330; clear HB; have BK330 := n0_; have HB := n1_; have BK331 := n2_; have GW331 := n3_; have GE331 := n4_; have NB330_331 := n5_; have NB331_330 := n6_; clear n0_ n1_ n2_ n3_ n4_ n5_ n6_; clear hb hbox hg) | ((with_reducible refine gate_dst (N := 10) rfl ?_); refine box_event ?hg (N := 10) ?hd (cs := #[.int .i64 a4_0, .int .i64 a4_1, .bool a4_2]) (t := 29) ?hr ?_; (case hd => rfl); (case hg => rfl); (case hr => first | (go_simp; done) | (go_simp; rfl)); intro gb332 hg w11 hbox hb; have n0_ := Aside0.mk (blk_below (g := gb330) (o := .cells #[.slice A2_0 l2_0.length c2_0, .slice A2_1 l2_1.length c2_1] 33 (0, 0)) (by (with_reducible repeat (first | refine blk_drewN ?_ _ | refine blk_drew ?_ | refine blk_alloc ?_ _)); exact BK330.out) hb); have n1_ := Aside0.mk (blk_below (g := gb331) (o := .cells #[.slice A3_0 l3_0.length c3_0, .slice A3_1 l3_1.length c3_1] 33 (0, 0)) (by (with_reducible repeat (first | refine blk_drewN ?_ _ | refine blk_drew ?_ | refine blk_alloc ?_ _)); exact BK331.out) hb); have n2_ := Aside0.mk (below_step (by repeat (first | (with_reducible first | exact HB.out | apply below_alloc | apply pw_below_drewN | apply below_drew1 | refine below_set ?_ GE330.out | refine below_set ?_ GE331.out) | exact HB.out)) hb); have n3_ := Aside0.mk (hbox); have n4_ := Aside0.mk ((by rw [hg]; exact (below_size (by repeat (first | (with_reducible first | exact HB.out | apply below_alloc | apply pw_below_drewN | apply below_drew1 | refine below_set ?_ GE330.out | refine below_set ?_ GE331.out) | exact HB.out))) : w.heap.size ≤ gb332)); have n5_ := Aside0.mk ((by rw [hg]; exact (below_size (by repeat (first | (with_reducible first | exact HB.out | apply below_alloc | apply pw_below_drewN | apply below_drew1 | refine below_set ?_ GE330.out | refine below_set ?_ GE331.out) | exact HB.out))) : w.heap.size ≤ gb332)); have n6_ := Aside0.mk ((by rw [hg]; exact Nat.ne_of_lt (blk_lt (g := gb330) (o := .cells #[.slice A2_0 l2_0.length c2_0, .slice A2_1 l2_1.length c2_1] 33 (0, 0)) (by (with_reducible repeat (first | refine blk_drewN ?_ _ | refine blk_drew ?_ | refine blk_alloc ?_ _)); exact BK330.out)) : gb330 ≠ gb332)); have n7_ := Aside0.mk ((by rw [hg]; exact Nat.ne_of_gt (blk_lt (g := gb330) (o := .cells #[.slice A2_0 l2_0.length c2_0, .slice A2_1 l2_1.length c2_1] 33 (0, 0)) (by (with_reducible repeat (first | refine blk_drewN ?_ _ | refine blk_drew ?_ | refine blk_alloc ?_ _)); exact BK330.out)) : gb332 ≠ gb330)); have n8_ := Aside0.mk ((by rw [hg]; exact Nat.ne_of_lt (blk_lt (g := gb331) (o := .cells #[.slice A3_0 l3_0.length c3_0, .slice A3_1 l3_1.length c3_1] 33 (0, 0)) (by (with_reducible repeat (first | refine blk_drewN ?_ _ | refine blk_drew ?_ | refine blk_alloc ?_ _)); exact BK331.out)) : gb331 ≠ gb332)); have n9_ := Aside0.mk ((by rw [hg]; exact Nat.ne_of_gt (blk_lt (g := gb331) (o := .cells #[.slice A3_0 l3_0.length c3_0, .slice A3_1 l3_1.length c3_1] 33 (0, 0)) (by (with_reducible repeat (first | refine blk_drewN ?_ _ | refine blk_drew ?_ | refine blk_alloc ?_ _)); exact BK331.out)) : gb332 ≠ gb331)); clear BK330; clear BK331; clear HB; have BK330 := n0_; have BK331 := n1_; have HB := n2_; have BK332 := n3_; have GW332 := n4_; have GE332 := n5_; have NB330_332 := n6_; have NB332_330 := n7_; have NB331_332 := n8_; have NB332_331 := n9_; clear n0_ n1_ n2_ n3_ n4_ n5_ n6_ n7_ n8_ n9_; clear hb hbox hg) | ((with_reducible refine gate_dst (N := 11) rfl ?_); refine box_event ?hg (N := 11) ?hd (cs := #[.int .i64 a5_0, .int .i64 a5_1, .bool a5_2]) (t := 29) ?hr ?_; (case hd => rfl); (case hg => rfl); (case hr => first | (go_simp; done) | (go_simp; rfl)); intro gb333 hg w12 hbox hb; have n0_ := Aside0.mk (blk_below (g := gb330) (o := .cells #[.slice A2_0 l2_0.length c2_0, .slice A2_1 l2_1.length c2_1] 33 (0, 0)) (by (with_reducible repeat (first | refine blk_drewN ?_ _ | refine blk_drew ?_ | refine blk_alloc ?_ _)); exact BK330.out) hb); have n1_ := Aside0.mk (blk_below (g := gb331) (o := .cells #[.slice A3_0 l3_0.length c3_0, .slice A3_1 l3_1.length c3_1] 33 (0, 0)) (by (with_reducible repeat (first | refine blk_drewN ?_ _ | refine blk_drew ?_ | refine blk_alloc ?_ _)); exact BK331.out) hb); have n2_ := Aside0.mk (blk_below (g := gb332) (o := .cells #[.int .i64 a4_0, .int .i64 a4_1, .bool a4_2] 29 (0, 0)) (by (with_reducible repeat (first | refine blk_drewN ?_ _ | refine blk_drew ?_ | refine blk_alloc ?_ _)); exact BK332.out) hb); have n3_ := Aside0.mk (below_step (by repeat (first | (with_reducible first | exact HB.out | apply below_alloc | apply pw_below_drewN | apply below_drew1 | refine below_set ?_ GE330.out | refine below_set ?_ GE331.out | refine below_set ?_ GE332.out) | exact HB.out)) hb); have n4_ := Aside0.mk (hbox); have n5_ := Aside0.mk ((by rw [hg]; exact (below_size (by repeat (first | (with_reducible first | exact HB.out | apply below_alloc | apply pw_below_drewN | apply below_drew1 | refine below_set ?_ GE330.out | refine below_set ?_ GE331.out | refine below_set ?_ GE332.out) | exact HB.out))) : w.heap.size ≤ gb333)); have n6_ := Aside0.mk ((by rw [hg]; exact (below_size (by repeat (first | (with_reducible first | exact HB.out | apply below_alloc | apply pw_below_drewN | apply below_drew1 | refine below_set ?_ GE330.out | refine below_set ?_ GE331.out | refine below_set ?_ GE332.out) | exact HB.out))) : w.heap.size ≤ gb333)); have n7_ := Aside0.mk ((by rw [hg]; exact Nat.ne_of_lt (blk_lt (g := gb330) (o := .cells #[.slice A2_0 l2_0.length c2_0, .slice A2_1 l2_1.length c2_1] 33 (0, 0)) (by (with_reducible repeat (first | refine blk_drewN ?_ _ | refine blk_drew ?_ | refine blk_alloc ?_ _)); exact BK330.out)) : gb330 ≠ gb333)); have n8_ := Aside0.mk ((by rw [hg]; exact Nat.ne_of_gt (blk_lt (g := gb330) (o := .cells #[.slice A2_0 l2_0.length c2_0, .slice A2_1 l2_1.length c2_1] 33 (0, 0)) (by (with_reducible repeat (first | refine blk_drewN ?_ _ | refine blk_drew ?_ | refine blk_alloc ?_ _)); exact BK330.out)) : gb333 ≠ gb330)); have n9_ := Aside0.mk ((by rw [hg]; exact Nat.ne_of_lt (blk_lt (g := gb331) (o := .cells #[.slice A3_0 l3_0.length c3_0, .slice A3_1 l3_1.length c3_1] 33 (0, 0)) (by (with_reducible repeat (first | refine blk_drewN ?_ _ | refine blk_drew ?_ | refine blk_alloc ?_ _)); exact BK331.out)) : gb331 ≠ gb333)); have n10_ := Aside0.mk ((by rw [hg]; exact Nat.ne_of_gt (blk_lt (g := gb331) (o := .cells #[.slice A3_0 l3_0.length c3_0, .slice A3_1 l3_1.length c3_1] 33 (0, 0)) (by (with_reducible repeat (first | refine blk_drewN ?_ _ | refine blk_drew ?_ | refine blk_alloc ?_ _)); exact BK331.out)) : gb333 ≠ gb331)); have n11_ := Aside0.mk ((by rw [hg]; exact Nat.ne_of_lt (blk_lt (g := gb332) (o := .cells #[.int .i64 a4_0, .int .i64 a4_1, .bool a4_2] 29 (0, 0)) (by (with_reducible repeat (first | refine blk_drewN ?_ _ | refine blk_drew ?_ | refine blk_alloc ?_ _)); exact BK332.out)) : gb332 ≠ gb333)); have n12_ := Aside0.mk ((by rw [hg]; exact Nat.ne_of_gt (blk_lt (g := gb332) (o := .cells #[.int .i64 a4_0, .int .i64 a4_1, .bool a4_2] 29 (0, 0)) (by (with_reducible repeat (first | refine blk_drewN ?_ _ | refine blk_drew ?_ | refine blk_alloc ?_ _)); exact BK332.out)) : gb333 ≠ gb332)); clear BK330; clear BK331; clear BK332; clear HB; have BK330 := n0_; have BK331 := n1_; have BK332 := n2_; have HB := n3_; have BK333 := n4_; have GW333 := n5_; have GE333 := n6_; have NB330_333 := n7_; have NB333_330 := n8_; have NB331_333 := n9_; have NB333_331 := n10_; have NB332_333 := n11_; have NB333_332 := n12_; clear n0_ n1_ n2_ n3_ n4_ n5_ n6_ n7_ n8_ n9_ n10_ n11_ n12_; clear hb hbox hg) | ((with_reducible refine gate_callee (f := 9) rfl ?_); refine goesL_ (some 36) rfl rfl Try.func9 (by kernel_rfl) rfl #[] rfl (by (try simp only [List.map_toArray, List.map_cons, List.map_nil]); first | done | rfl | (simp only [List.length_drop, List.length_take]; rfl)) ?_; (with_reducible refine (avocetlaw04_awake.calls k  t334 _ A7.out).mono ?_); rintro e w13 ⟨rfl, hb⟩; refine ⟨_, rfl, ?_⟩; have n0_ := Aside0.mk (blk_below (g := gb330) (o := .cells #[.slice A2_0 l2_0.length c2_0, .slice A2_1 l2_1.length c2_1] 33 (0, 0)) (by (with_reducible repeat (first | refine blk_drewN ?_ _ | refine blk_drew ?_ | refine blk_alloc ?_ _)); exact BK330.out) hb); have n1_ := Aside0.mk (blk_below (g := gb331) (o := .cells #[.slice A3_0 l3_0.length c3_0, .slice A3_1 l3_1.length c3_1] 33 (0, 0)) (by (with_reducible repeat (first | refine blk_drewN ?_ _ | refine blk_drew ?_ | refine blk_alloc ?_ _)); exact BK331.out) hb); have n2_ := Aside0.mk (blk_below (g := gb332) (o := .cells #[.int .i64 a4_0, .int .i64 a4_1, .bool a4_2] 29 (0, 0)) (by (with_reducible repeat (first | refine blk_drewN ?_ _ | refine blk_drew ?_ | refine blk_alloc ?_ _)); exact BK332.out) hb); have n3_ := Aside0.mk (blk_below (g := gb333) (o := .cells #[.int .i64 a5_0, .int .i64 a5_1, .bool a5_2] 29 (0, 0)) (by (with_reducible repeat (first | refine blk_drewN ?_ _ | refine blk_drew ?_ | refine blk_alloc ?_ _)); exact BK333.out) hb); have n4_ := Aside0.mk (below_step (by repeat (first | (with_reducible first | exact HB.out | apply below_alloc | apply pw_below_drewN | apply below_drew1 | refine below_set ?_ GE330.out | refine below_set ?_ GE331.out | refine below_set ?_ GE332.out | refine below_set ?_ GE333.out) | exact HB.out)) hb); clear BK330; clear BK331; clear BK332; clear BK333; clear HB; have BK330 := n0_; have BK331 := n1_; have BK332 := n2_; have BK333 := n3_; have HB := n4_; clear n0_ n1_ n2_ n3_ n4_; (try clear hb); (try clear hb2); (try clear hk); (try clear hi)))
  (try simp only [Act.put, List.setIfInBounds_toArray, List.set_cons_zero, List.set_cons_succ])
  go_cut [49] (fun v49 wc => ∃ (kq : Nat) (x49_7 : Bool), v49 = .bool x49_7 ∧ Aside0 (avocetlaw04_TypesIs.j0 kq l0 a1 t334 x49_7 l2_0 l2_1 l3_0 l3_1 a4_0 a4_1 a4_2 a5_0 a5_1 a5_2 = some r) ∧ Aside0 (kq ≤ k) ∧ Aside0 (wc.heap[gb330]? = some (.cells #[(.slice A2_0 l2_0.length c2_0), (.slice A2_1 l2_1.length c2_1)] 33 (0, 0))) ∧ Aside0 (wc.heap[gb331]? = some (.cells #[(.slice A3_0 l3_0.length c3_0), (.slice A3_1 l3_1.length c3_1)] 33 (0, 0))) ∧ Aside0 (wc.heap[gb332]? = some (.cells #[.int .i64 a4_0, .int .i64 a4_1, .bool a4_2] 29 (0, 0))) ∧ Aside0 (wc.heap[gb333]? = some (.cells #[.int .i64 a5_0, .int .i64 a5_1, .bool a5_2] 29 (0, 0))) ∧ Aside0 (Below w.heap.size w wc))
  case first =>
    have H := HC8.out
    clear HC8
    by_cases c14 : (l0.length : Int) > 500
    · rw [if_pos c14] at H
      have c14b0 : decide (500 < (l0.length : Int)) = true := decide_eq_true c14
      have c14b1 : decide (500 < l0.length) = true := decide_eq_true (by omega)
      clear c14
      (first | rw [c14b0] | (simp only [i64_w, i32_w]; rw [c14b0]) | skip)
      have H' := Aside0.mk H
      clear H
      go_wp2
      go_meet
      case rel => exact ⟨_, (true), (by first | rfl | (simp; done) | (simp [*]; done)), H', ⟨by first | omega | exact Nat.le_refl _⟩, ⟨by (with_reducible repeat (first | refine blk_drewN ?_ _ | refine blk_drew ?_ | refine blk_alloc ?_ _)); exact BK330.out⟩, ⟨by (with_reducible repeat (first | refine blk_drewN ?_ _ | refine blk_drew ?_ | refine blk_alloc ?_ _)); exact BK331.out⟩, ⟨by (with_reducible repeat (first | refine blk_drewN ?_ _ | refine blk_drew ?_ | refine blk_alloc ?_ _)); exact BK332.out⟩, ⟨by (with_reducible repeat (first | refine blk_drewN ?_ _ | refine blk_drew ?_ | refine blk_alloc ?_ _)); exact BK333.out⟩, ⟨by repeat (first | (with_reducible first | exact HB.out | apply below_alloc | apply pw_below_drewN | apply below_drew1 | refine below_set ?_ GE330.out | refine below_set ?_ GE331.out | refine below_set ?_ GE332.out | refine below_set ?_ GE333.out) | exact HB.out)⟩⟩
    · rw [if_neg c14] at H
      have c14b0 : decide (500 < (l0.length : Int)) = false := decide_eq_false c14
      have c14b1 : decide (500 < l0.length) = false := decide_eq_false (by omega)
      clear c14
      (first | rw [c14b0] | (simp only [i64_w, i32_w]; rw [c14b0]) | skip)
      replace H := Option.bind_eq_some_iff.mp H
      obtain ⟨t335, A150, H⟩ := H
      replace H : (if t335 = true then ((avocetlaw04_small.f l3_0 l3_1).bind fun t336 => (avocetlaw04_TypesIs.j0 k l0 a1 t334 (!t336) l2_0 l2_1 l3_0 l3_1 a4_0 a4_1 a4_2 a5_0 a5_1 a5_2)) else (avocetlaw04_TypesIs.j0 k l0 a1 t334 true l2_0 l2_1 l3_0 l3_1 a4_0 a4_1 a4_2 a5_0 a5_1 a5_2)) = some r := H
      have A15 := Aside0.mk A150
      clear A150
      by_cases c16 : t335 = true
      · subst c16
        have H1 : ((avocetlaw04_small.f l3_0 l3_1).bind fun t336 => (avocetlaw04_TypesIs.j0 k l0 a1 t334 (!t336) l2_0 l2_1 l3_0 l3_1 a4_0 a4_1 a4_2 a5_0 a5_1 a5_2)) = some r := by rw [if_pos rfl] at H; exact H
        clear H
        have H := H1
        clear H1
        replace H := Option.bind_eq_some_iff.mp H
        obtain ⟨t336, A170, H⟩ := H
        replace H : (avocetlaw04_TypesIs.j0 k l0 a1 t334 (!t336) l2_0 l2_1 l3_0 l3_1 a4_0 a4_1 a4_2 a5_0 a5_1 a5_2) = some r := H
        have A17 := Aside0.mk A170
        clear A170
        have H' := Aside0.mk H
        clear H
        have hnb18 := NB330_331.out
        have hnc18 := NB331_330.out
        have hnb19 := NB330_332.out
        have hnc19 := NB332_330.out
        have hnb20 := NB330_333.out
        have hnc20 := NB333_330.out
        have hcz21_0 : w13.cell? ⟨gb330, 0, none⟩ = some (.slice A2_0 l2_0.length c2_0) := (blk_cell BK330.out 0).trans rfl
        have hcz21_1 : w13.cell? ⟨gb330, 1, none⟩ = some (.slice A2_1 l2_1.length c2_1) := (blk_cell BK330.out 1).trans rfl
        have hfz21_0 := blk_frozen BK330.out 0
        have hfz21_1 := blk_frozen BK330.out 1
        go_wp2_with (first | (go_at_call 12; (with_reducible refine (avocetlaw04_small.calls _ _ l2_0 _ _ l2_1 true _ ?side1 ?side2 ?side3 ?side4 A15.out).mono ?_); (case side1 => repeat (first | exact (Kd.C_below HR2_0.out HB.out) | (with_reducible refine Kd.C_alloc ?_ _) | (with_reducible refine Kd.C_drewN ?_ _) | (with_reducible refine Kd.C_drew ?_))); (case side2 => exact HC2_0.out); (case side3 => repeat (first | exact (Kd.C_below HR2_1.out HB.out) | (with_reducible refine Kd.C_alloc ?_ _) | (with_reducible refine Kd.C_drewN ?_ _) | (with_reducible refine Kd.C_drew ?_))); (case side4 => exact HC2_1.out); rintro e w22 ⟨rfl, hb⟩; have n0_ := Aside0.mk (blk_below (g := gb330) (o := .cells #[.slice A2_0 l2_0.length c2_0, .slice A2_1 l2_1.length c2_1] 33 (0, 0)) (by (with_reducible repeat (first | refine blk_drewN ?_ _ | refine blk_drew ?_ | refine blk_alloc ?_ _)); exact BK330.out) hb); have n1_ := Aside0.mk (blk_below (g := gb331) (o := .cells #[.slice A3_0 l3_0.length c3_0, .slice A3_1 l3_1.length c3_1] 33 (0, 0)) (by (with_reducible repeat (first | refine blk_drewN ?_ _ | refine blk_drew ?_ | refine blk_alloc ?_ _)); exact BK331.out) hb); have n2_ := Aside0.mk (blk_below (g := gb332) (o := .cells #[.int .i64 a4_0, .int .i64 a4_1, .bool a4_2] 29 (0, 0)) (by (with_reducible repeat (first | refine blk_drewN ?_ _ | refine blk_drew ?_ | refine blk_alloc ?_ _)); exact BK332.out) hb); have n3_ := Aside0.mk (blk_below (g := gb333) (o := .cells #[.int .i64 a5_0, .int .i64 a5_1, .bool a5_2] 29 (0, 0)) (by (with_reducible repeat (first | refine blk_drewN ?_ _ | refine blk_drew ?_ | refine blk_alloc ?_ _)); exact BK333.out) hb); have n4_ := Aside0.mk (below_step (by repeat (first | (with_reducible first | exact HB.out | apply below_alloc | apply pw_below_drewN | apply below_drew1 | refine below_set ?_ GE330.out | refine below_set ?_ GE331.out | refine below_set ?_ GE332.out | refine below_set ?_ GE333.out) | exact HB.out)) hb); clear BK330; clear BK331; clear BK332; clear BK333; clear HB; have BK330 := n0_; have BK331 := n1_; have BK332 := n2_; have BK333 := n3_; have HB := n4_; clear n0_ n1_ n2_ n3_ n4_; (try clear hb); (try clear hb2); (try clear hk); (try clear hi); have hnb23 := NB331_332.out; have hnc23 := NB332_331.out; have hnb24 := NB331_333.out; have hnc24 := NB333_331.out; have hcz25_0 : w22.cell? ⟨gb331, 0, none⟩ = some (.slice A3_0 l3_0.length c3_0) := (blk_cell BK331.out 0).trans rfl; have hcz25_1 : w22.cell? ⟨gb331, 1, none⟩ = some (.slice A3_1 l3_1.length c3_1) := (blk_cell BK331.out 1).trans rfl; have hfz25_0 := blk_frozen BK331.out 0; have hfz25_1 := blk_frozen BK331.out 1) | (go_at_call 12; (with_reducible refine (avocetlaw04_small.calls _ _ l3_0 _ _ l3_1 t336 _ ?side1 ?side2 ?side3 ?side4 A17.out).mono ?_); (case side1 => repeat (first | exact (Kd.C_below HR3_0.out HB.out) | (with_reducible refine Kd.C_alloc ?_ _) | (with_reducible refine Kd.C_drewN ?_ _) | (with_reducible refine Kd.C_drew ?_))); (case side2 => exact HC3_0.out); (case side3 => repeat (first | exact (Kd.C_below HR3_1.out HB.out) | (with_reducible refine Kd.C_alloc ?_ _) | (with_reducible refine Kd.C_drewN ?_ _) | (with_reducible refine Kd.C_drew ?_))); (case side4 => exact HC3_1.out); rintro e w26 ⟨rfl, hb⟩; have n0_ := Aside0.mk (blk_below (g := gb330) (o := .cells #[.slice A2_0 l2_0.length c2_0, .slice A2_1 l2_1.length c2_1] 33 (0, 0)) (by (with_reducible repeat (first | refine blk_drewN ?_ _ | refine blk_drew ?_ | refine blk_alloc ?_ _)); exact BK330.out) hb); have n1_ := Aside0.mk (blk_below (g := gb331) (o := .cells #[.slice A3_0 l3_0.length c3_0, .slice A3_1 l3_1.length c3_1] 33 (0, 0)) (by (with_reducible repeat (first | refine blk_drewN ?_ _ | refine blk_drew ?_ | refine blk_alloc ?_ _)); exact BK331.out) hb); have n2_ := Aside0.mk (blk_below (g := gb332) (o := .cells #[.int .i64 a4_0, .int .i64 a4_1, .bool a4_2] 29 (0, 0)) (by (with_reducible repeat (first | refine blk_drewN ?_ _ | refine blk_drew ?_ | refine blk_alloc ?_ _)); exact BK332.out) hb); have n3_ := Aside0.mk (blk_below (g := gb333) (o := .cells #[.int .i64 a5_0, .int .i64 a5_1, .bool a5_2] 29 (0, 0)) (by (with_reducible repeat (first | refine blk_drewN ?_ _ | refine blk_drew ?_ | refine blk_alloc ?_ _)); exact BK333.out) hb); have n4_ := Aside0.mk (below_step (by repeat (first | (with_reducible first | exact HB.out | apply below_alloc | apply pw_below_drewN | apply below_drew1 | refine below_set ?_ GE330.out | refine below_set ?_ GE331.out | refine below_set ?_ GE332.out | refine below_set ?_ GE333.out) | exact HB.out)) hb); clear BK330; clear BK331; clear BK332; clear BK333; clear HB; have BK330 := n0_; have BK331 := n1_; have BK332 := n2_; have BK333 := n3_; have HB := n4_; clear n0_ n1_ n2_ n3_ n4_; (try clear hb); (try clear hb2); (try clear hk); (try clear hi)))
        go_meet
        case rel => exact ⟨_, (!t336), (by first | rfl | (simp; done) | (simp [*]; done)), H', ⟨by first | omega | exact Nat.le_refl _⟩, ⟨by (with_reducible repeat (first | refine blk_drewN ?_ _ | refine blk_drew ?_ | refine blk_alloc ?_ _)); exact BK330.out⟩, ⟨by (with_reducible repeat (first | refine blk_drewN ?_ _ | refine blk_drew ?_ | refine blk_alloc ?_ _)); exact BK331.out⟩, ⟨by (with_reducible repeat (first | refine blk_drewN ?_ _ | refine blk_drew ?_ | refine blk_alloc ?_ _)); exact BK332.out⟩, ⟨by (with_reducible repeat (first | refine blk_drewN ?_ _ | refine blk_drew ?_ | refine blk_alloc ?_ _)); exact BK333.out⟩, ⟨by repeat (first | (with_reducible first | exact HB.out | apply below_alloc | apply pw_below_drewN | apply below_drew1 | refine below_set ?_ GE330.out | refine below_set ?_ GE331.out | refine below_set ?_ GE332.out | refine below_set ?_ GE333.out) | exact HB.out)⟩⟩
      · replace c16 := Bool.eq_false_iff.mpr c16
        subst c16
        have H1 : (avocetlaw04_TypesIs.j0 k l0 a1 t334 true l2_0 l2_1 l3_0 l3_1 a4_0 a4_1 a4_2 a5_0 a5_1 a5_2) = some r := by rw [if_neg (show ¬ (false = true) by decide)] at H; exact H
        clear H
        have H := H1
        clear H1
        have H' := Aside0.mk H
        clear H
        have hnb27 := NB330_331.out
        have hnc27 := NB331_330.out
        have hnb28 := NB330_332.out
        have hnc28 := NB332_330.out
        have hnb29 := NB330_333.out
        have hnc29 := NB333_330.out
        have hcz30_0 : w13.cell? ⟨gb330, 0, none⟩ = some (.slice A2_0 l2_0.length c2_0) := (blk_cell BK330.out 0).trans rfl
        have hcz30_1 : w13.cell? ⟨gb330, 1, none⟩ = some (.slice A2_1 l2_1.length c2_1) := (blk_cell BK330.out 1).trans rfl
        have hfz30_0 := blk_frozen BK330.out 0
        have hfz30_1 := blk_frozen BK330.out 1
        go_wp2_with (first | (go_at_call 12; (with_reducible refine (avocetlaw04_small.calls _ _ l2_0 _ _ l2_1 false _ ?side1 ?side2 ?side3 ?side4 A15.out).mono ?_); (case side1 => repeat (first | exact (Kd.C_below HR2_0.out HB.out) | (with_reducible refine Kd.C_alloc ?_ _) | (with_reducible refine Kd.C_drewN ?_ _) | (with_reducible refine Kd.C_drew ?_))); (case side2 => exact HC2_0.out); (case side3 => repeat (first | exact (Kd.C_below HR2_1.out HB.out) | (with_reducible refine Kd.C_alloc ?_ _) | (with_reducible refine Kd.C_drewN ?_ _) | (with_reducible refine Kd.C_drew ?_))); (case side4 => exact HC2_1.out); rintro e w31 ⟨rfl, hb⟩; have n0_ := Aside0.mk (blk_below (g := gb330) (o := .cells #[.slice A2_0 l2_0.length c2_0, .slice A2_1 l2_1.length c2_1] 33 (0, 0)) (by (with_reducible repeat (first | refine blk_drewN ?_ _ | refine blk_drew ?_ | refine blk_alloc ?_ _)); exact BK330.out) hb); have n1_ := Aside0.mk (blk_below (g := gb331) (o := .cells #[.slice A3_0 l3_0.length c3_0, .slice A3_1 l3_1.length c3_1] 33 (0, 0)) (by (with_reducible repeat (first | refine blk_drewN ?_ _ | refine blk_drew ?_ | refine blk_alloc ?_ _)); exact BK331.out) hb); have n2_ := Aside0.mk (blk_below (g := gb332) (o := .cells #[.int .i64 a4_0, .int .i64 a4_1, .bool a4_2] 29 (0, 0)) (by (with_reducible repeat (first | refine blk_drewN ?_ _ | refine blk_drew ?_ | refine blk_alloc ?_ _)); exact BK332.out) hb); have n3_ := Aside0.mk (blk_below (g := gb333) (o := .cells #[.int .i64 a5_0, .int .i64 a5_1, .bool a5_2] 29 (0, 0)) (by (with_reducible repeat (first | refine blk_drewN ?_ _ | refine blk_drew ?_ | refine blk_alloc ?_ _)); exact BK333.out) hb); have n4_ := Aside0.mk (below_step (by repeat (first | (with_reducible first | exact HB.out | apply below_alloc | apply pw_below_drewN | apply below_drew1 | refine below_set ?_ GE330.out | refine below_set ?_ GE331.out | refine below_set ?_ GE332.out | refine below_set ?_ GE333.out) | exact HB.out)) hb); clear BK330; clear BK331; clear BK332; clear BK333; clear HB; have BK330 := n0_; have BK331 := n1_; have BK332 := n2_; have BK333 := n3_; have HB := n4_; clear n0_ n1_ n2_ n3_ n4_; (try clear hb); (try clear hb2); (try clear hk); (try clear hi)))
        go_meet
        case rel => exact ⟨_, (true), (by first | rfl | (simp; done) | (simp [*]; done)), H', ⟨by first | omega | exact Nat.le_refl _⟩, ⟨by (with_reducible repeat (first | refine blk_drewN ?_ _ | refine blk_drew ?_ | refine blk_alloc ?_ _)); exact BK330.out⟩, ⟨by (with_reducible repeat (first | refine blk_drewN ?_ _ | refine blk_drew ?_ | refine blk_alloc ?_ _)); exact BK331.out⟩, ⟨by (with_reducible repeat (first | refine blk_drewN ?_ _ | refine blk_drew ?_ | refine blk_alloc ?_ _)); exact BK332.out⟩, ⟨by (with_reducible repeat (first | refine blk_drewN ?_ _ | refine blk_drew ?_ | refine blk_alloc ?_ _)); exact BK333.out⟩, ⟨by repeat (first | (with_reducible first | exact HB.out | apply below_alloc | apply pw_below_drewN | apply below_drew1 | refine below_set ?_ GE330.out | refine below_set ?_ GE331.out | refine below_set ?_ GE332.out | refine below_set ?_ GE333.out) | exact HB.out)⟩⟩
  case rest =>
    clear HC8
    try clear c1
    try clear c2
    try clear p2
    try clear c3
    try clear c8
    try clear c9
    try clear c14
    try clear c14b0
    try clear c14b1
    try clear c16
    try clear c18
    try clear c19
    try clear c20
    try clear c23
    try clear c24
    try clear c27
    try clear c28
    try clear c29
    try clear hcz21_0
    try clear hcz21_1
    try clear hcz25_0
    try clear hcz25_1
    try clear hcz30_0
    try clear hcz30_1
    try clear hfz21_0
    try clear hfz21_1
    try clear hfz25_0
    try clear hfz25_1
    try clear hfz30_0
    try clear hfz30_1
    obtain ⟨kq, x49_7, rfl, HA, HJ7, BK330, BK331, BK332, BK333, HB⟩ := hcut
    cases kq with
    | zero => exact absurd HA.out (by simp [avocetlaw04_TypesIs.j0])
    | succ kj7 =>
      have H := HA.out
      clear HA
      simp only [avocetlaw04_TypesIs.j0] at H
      by_cases c32 : x49_7 = true
      · subst c32
        have H1 : (some t334) = some r := by rw [if_pos rfl] at H; exact H
        clear H
        have H := H1
        clear H1
        obtain rfl := Option.some.inj H
        go_wp2
        go_ret
        exact ⟨by first | rfl | (simp [errW_none, errW_some] <;> rfl) | (simp [*, errW_none, errW_some] <;> rfl), by repeat (first | (with_reducible first | exact HB.out | apply below_alloc | apply pw_below_drewN | apply below_drew1 | refine below_set ?_ GE330.out | refine below_set ?_ GE331.out | refine below_set ?_ GE332.out | refine below_set ?_ GE333.out) | exact HB.out)⟩
      · replace c32 := Bool.eq_false_iff.mpr c32
        subst c32
        have H1 : ((types_Val.f kj7 l0 a1).bind fun bt337 => ((avocetref04_Val.f kj7 l0 a1).bind fun bt340 => ((types_Func.f kj7 l0 a1).bind fun bt343 => ((avocetref04_Func.f kj7 l0 a1).bind fun bt352 => ((types_Limits.f l0 a1).bind fun bt361 => ((avocetref04_Limits.f kj7 l0 a1).bind fun bt367 => (if bt337.1 = bt340.1 then (if bt337.2.1 = bt340.2.1 then (if bt337.2.2 = bt340.2.2 then ((avocetref04_Same.f bt343.1 bt343.2.1 bt352.1 bt352.2.1).bind fun t373 => (if t373 = true then (if bt343.2.2.1 = bt352.2.2.1 then (if bt343.2.2.2 = bt352.2.2.2 then (if (!(bt361.1 == bt367.1) || (!(bt361.2.1 == bt367.2.1) || (!(bt361.2.2.1 == bt367.2.2.1)))) = true then (avocetlaw04_TypesIs.j1 kj7 l0 t334 true l2_0 l2_1 l3_0 l3_1 a4_0 a4_1 a4_2 a5_0 a5_1 a5_2) else (if bt361.2.2.2.1 = bt367.2.2.2.1 then (avocetlaw04_TypesIs.j1 kj7 l0 t334 (bt361.2.2.2.2 != bt367.2.2.2.2) l2_0 l2_1 l3_0 l3_1 a4_0 a4_1 a4_2 a5_0 a5_1 a5_2) else (avocetlaw04_TypesIs.j1 kj7 l0 t334 true l2_0 l2_1 l3_0 l3_1 a4_0 a4_1 a4_2 a5_0 a5_1 a5_2))) else (avocetlaw04_TypesIs.j1 kj7 l0 t334 true l2_0 l2_1 l3_0 l3_1 a4_0 a4_1 a4_2 a5_0 a5_1 a5_2)) else (avocetlaw04_TypesIs.j1 kj7 l0 t334 true l2_0 l2_1 l3_0 l3_1 a4_0 a4_1 a4_2 a5_0 a5_1 a5_2)) else (avocetlaw04_TypesIs.j1 kj7 l0 t334 true l2_0 l2_1 l3_0 l3_1 a4_0 a4_1 a4_2 a5_0 a5_1 a5_2))) else (avocetlaw04_TypesIs.j1 kj7 l0 t334 true l2_0 l2_1 l3_0 l3_1 a4_0 a4_1 a4_2 a5_0 a5_1 a5_2)) else (avocetlaw04_TypesIs.j1 kj7 l0 t334 true l2_0 l2_1 l3_0 l3_1 a4_0 a4_1 a4_2 a5_0 a5_1 a5_2)) else (avocetlaw04_TypesIs.j1 kj7 l0 t334 true l2_0 l2_1 l3_0 l3_1 a4_0 a4_1 a4_2 a5_0 a5_1 a5_2)))))))) = some r := by rw [if_neg (show ¬ (false = true) by decide)] at H; exact H
        clear H
        have H := H1
        clear H1
        replace H := Option.bind_eq_some_iff.mp H
        obtain ⟨⟨t337, t338, t339⟩, A330, H⟩ := H
        replace H : ((avocetref04_Val.f kj7 l0 a1).bind fun bt340 => ((types_Func.f kj7 l0 a1).bind fun bt343 => ((avocetref04_Func.f kj7 l0 a1).bind fun bt352 => ((types_Limits.f l0 a1).bind fun bt361 => ((avocetref04_Limits.f kj7 l0 a1).bind fun bt367 => (if t337 = bt340.1 then (if t338 = bt340.2.1 then (if t339 = bt340.2.2 then ((avocetref04_Same.f bt343.1 bt343.2.1 bt352.1 bt352.2.1).bind fun t373 => (if t373 = true then (if bt343.2.2.1 = bt352.2.2.1 then (if bt343.2.2.2 = bt352.2.2.2 then (if (!(bt361.1 == bt367.1) || (!(bt361.2.1 == bt367.2.1) || (!(bt361.2.2.1 == bt367.2.2.1)))) = true then (avocetlaw04_TypesIs.j1 kj7 l0 t334 true l2_0 l2_1 l3_0 l3_1 a4_0 a4_1 a4_2 a5_0 a5_1 a5_2) else (if bt361.2.2.2.1 = bt367.2.2.2.1 then (avocetlaw04_TypesIs.j1 kj7 l0 t334 (bt361.2.2.2.2 != bt367.2.2.2.2) l2_0 l2_1 l3_0 l3_1 a4_0 a4_1 a4_2 a5_0 a5_1 a5_2) else (avocetlaw04_TypesIs.j1 kj7 l0 t334 true l2_0 l2_1 l3_0 l3_1 a4_0 a4_1 a4_2 a5_0 a5_1 a5_2))) else (avocetlaw04_TypesIs.j1 kj7 l0 t334 true l2_0 l2_1 l3_0 l3_1 a4_0 a4_1 a4_2 a5_0 a5_1 a5_2)) else (avocetlaw04_TypesIs.j1 kj7 l0 t334 true l2_0 l2_1 l3_0 l3_1 a4_0 a4_1 a4_2 a5_0 a5_1 a5_2)) else (avocetlaw04_TypesIs.j1 kj7 l0 t334 true l2_0 l2_1 l3_0 l3_1 a4_0 a4_1 a4_2 a5_0 a5_1 a5_2))) else (avocetlaw04_TypesIs.j1 kj7 l0 t334 true l2_0 l2_1 l3_0 l3_1 a4_0 a4_1 a4_2 a5_0 a5_1 a5_2)) else (avocetlaw04_TypesIs.j1 kj7 l0 t334 true l2_0 l2_1 l3_0 l3_1 a4_0 a4_1 a4_2 a5_0 a5_1 a5_2)) else (avocetlaw04_TypesIs.j1 kj7 l0 t334 true l2_0 l2_1 l3_0 l3_1 a4_0 a4_1 a4_2 a5_0 a5_1 a5_2))))))) = some r := H
        have A33 := Aside0.mk A330
        clear A330
        replace H := Option.bind_eq_some_iff.mp H
        obtain ⟨⟨t340, t341, t342⟩, A340, H⟩ := H
        replace H : ((types_Func.f kj7 l0 a1).bind fun bt343 => ((avocetref04_Func.f kj7 l0 a1).bind fun bt352 => ((types_Limits.f l0 a1).bind fun bt361 => ((avocetref04_Limits.f kj7 l0 a1).bind fun bt367 => (if t337 = t340 then (if t338 = t341 then (if t339 = t342 then ((avocetref04_Same.f bt343.1 bt343.2.1 bt352.1 bt352.2.1).bind fun t373 => (if t373 = true then (if bt343.2.2.1 = bt352.2.2.1 then (if bt343.2.2.2 = bt352.2.2.2 then (if (!(bt361.1 == bt367.1) || (!(bt361.2.1 == bt367.2.1) || (!(bt361.2.2.1 == bt367.2.2.1)))) = true then (avocetlaw04_TypesIs.j1 kj7 l0 t334 true l2_0 l2_1 l3_0 l3_1 a4_0 a4_1 a4_2 a5_0 a5_1 a5_2) else (if bt361.2.2.2.1 = bt367.2.2.2.1 then (avocetlaw04_TypesIs.j1 kj7 l0 t334 (bt361.2.2.2.2 != bt367.2.2.2.2) l2_0 l2_1 l3_0 l3_1 a4_0 a4_1 a4_2 a5_0 a5_1 a5_2) else (avocetlaw04_TypesIs.j1 kj7 l0 t334 true l2_0 l2_1 l3_0 l3_1 a4_0 a4_1 a4_2 a5_0 a5_1 a5_2))) else (avocetlaw04_TypesIs.j1 kj7 l0 t334 true l2_0 l2_1 l3_0 l3_1 a4_0 a4_1 a4_2 a5_0 a5_1 a5_2)) else (avocetlaw04_TypesIs.j1 kj7 l0 t334 true l2_0 l2_1 l3_0 l3_1 a4_0 a4_1 a4_2 a5_0 a5_1 a5_2)) else (avocetlaw04_TypesIs.j1 kj7 l0 t334 true l2_0 l2_1 l3_0 l3_1 a4_0 a4_1 a4_2 a5_0 a5_1 a5_2))) else (avocetlaw04_TypesIs.j1 kj7 l0 t334 true l2_0 l2_1 l3_0 l3_1 a4_0 a4_1 a4_2 a5_0 a5_1 a5_2)) else (avocetlaw04_TypesIs.j1 kj7 l0 t334 true l2_0 l2_1 l3_0 l3_1 a4_0 a4_1 a4_2 a5_0 a5_1 a5_2)) else (avocetlaw04_TypesIs.j1 kj7 l0 t334 true l2_0 l2_1 l3_0 l3_1 a4_0 a4_1 a4_2 a5_0 a5_1 a5_2)))))) = some r := H
        have A34 := Aside0.mk A340
        clear A340
        replace H := Option.bind_eq_some_iff.mp H
        obtain ⟨⟨t343, t346, t349, t350⟩, A350, H⟩ := H
        replace H : ((avocetref04_Func.f kj7 l0 a1).bind fun bt352 => ((types_Limits.f l0 a1).bind fun bt361 => ((avocetref04_Limits.f kj7 l0 a1).bind fun bt367 => (if t337 = t340 then (if t338 = t341 then (if t339 = t342 then ((avocetref04_Same.f t343 t346 bt352.1 bt352.2.1).bind fun t373 => (if t373 = true then (if t349 = bt352.2.2.1 then (if t350 = bt352.2.2.2 then (if (!(bt361.1 == bt367.1) || (!(bt361.2.1 == bt367.2.1) || (!(bt361.2.2.1 == bt367.2.2.1)))) = true then (avocetlaw04_TypesIs.j1 kj7 l0 t334 true l2_0 l2_1 l3_0 l3_1 a4_0 a4_1 a4_2 a5_0 a5_1 a5_2) else (if bt361.2.2.2.1 = bt367.2.2.2.1 then (avocetlaw04_TypesIs.j1 kj7 l0 t334 (bt361.2.2.2.2 != bt367.2.2.2.2) l2_0 l2_1 l3_0 l3_1 a4_0 a4_1 a4_2 a5_0 a5_1 a5_2) else (avocetlaw04_TypesIs.j1 kj7 l0 t334 true l2_0 l2_1 l3_0 l3_1 a4_0 a4_1 a4_2 a5_0 a5_1 a5_2))) else (avocetlaw04_TypesIs.j1 kj7 l0 t334 true l2_0 l2_1 l3_0 l3_1 a4_0 a4_1 a4_2 a5_0 a5_1 a5_2)) else (avocetlaw04_TypesIs.j1 kj7 l0 t334 true l2_0 l2_1 l3_0 l3_1 a4_0 a4_1 a4_2 a5_0 a5_1 a5_2)) else (avocetlaw04_TypesIs.j1 kj7 l0 t334 true l2_0 l2_1 l3_0 l3_1 a4_0 a4_1 a4_2 a5_0 a5_1 a5_2))) else (avocetlaw04_TypesIs.j1 kj7 l0 t334 true l2_0 l2_1 l3_0 l3_1 a4_0 a4_1 a4_2 a5_0 a5_1 a5_2)) else (avocetlaw04_TypesIs.j1 kj7 l0 t334 true l2_0 l2_1 l3_0 l3_1 a4_0 a4_1 a4_2 a5_0 a5_1 a5_2)) else (avocetlaw04_TypesIs.j1 kj7 l0 t334 true l2_0 l2_1 l3_0 l3_1 a4_0 a4_1 a4_2 a5_0 a5_1 a5_2))))) = some r := H
        have A35 := Aside0.mk A350
        clear A350
        replace H := Option.bind_eq_some_iff.mp H
        obtain ⟨⟨t352, t355, t358, t359⟩, A360, H⟩ := H
        replace H : ((types_Limits.f l0 a1).bind fun bt361 => ((avocetref04_Limits.f kj7 l0 a1).bind fun bt367 => (if t337 = t340 then (if t338 = t341 then (if t339 = t342 then ((avocetref04_Same.f t343 t346 t352 t355).bind fun t373 => (if t373 = true then (if t349 = t358 then (if t350 = t359 then (if (!(bt361.1 == bt367.1) || (!(bt361.2.1 == bt367.2.1) || (!(bt361.2.2.1 == bt367.2.2.1)))) = true then (avocetlaw04_TypesIs.j1 kj7 l0 t334 true l2_0 l2_1 l3_0 l3_1 a4_0 a4_1 a4_2 a5_0 a5_1 a5_2) else (if bt361.2.2.2.1 = bt367.2.2.2.1 then (avocetlaw04_TypesIs.j1 kj7 l0 t334 (bt361.2.2.2.2 != bt367.2.2.2.2) l2_0 l2_1 l3_0 l3_1 a4_0 a4_1 a4_2 a5_0 a5_1 a5_2) else (avocetlaw04_TypesIs.j1 kj7 l0 t334 true l2_0 l2_1 l3_0 l3_1 a4_0 a4_1 a4_2 a5_0 a5_1 a5_2))) else (avocetlaw04_TypesIs.j1 kj7 l0 t334 true l2_0 l2_1 l3_0 l3_1 a4_0 a4_1 a4_2 a5_0 a5_1 a5_2)) else (avocetlaw04_TypesIs.j1 kj7 l0 t334 true l2_0 l2_1 l3_0 l3_1 a4_0 a4_1 a4_2 a5_0 a5_1 a5_2)) else (avocetlaw04_TypesIs.j1 kj7 l0 t334 true l2_0 l2_1 l3_0 l3_1 a4_0 a4_1 a4_2 a5_0 a5_1 a5_2))) else (avocetlaw04_TypesIs.j1 kj7 l0 t334 true l2_0 l2_1 l3_0 l3_1 a4_0 a4_1 a4_2 a5_0 a5_1 a5_2)) else (avocetlaw04_TypesIs.j1 kj7 l0 t334 true l2_0 l2_1 l3_0 l3_1 a4_0 a4_1 a4_2 a5_0 a5_1 a5_2)) else (avocetlaw04_TypesIs.j1 kj7 l0 t334 true l2_0 l2_1 l3_0 l3_1 a4_0 a4_1 a4_2 a5_0 a5_1 a5_2)))) = some r := H
        have A36 := Aside0.mk A360
        clear A360
        replace H := Option.bind_eq_some_iff.mp H
        obtain ⟨⟨t361, t362, t363, t364, t365⟩, A370, H⟩ := H
        replace H : ((avocetref04_Limits.f kj7 l0 a1).bind fun bt367 => (if t337 = t340 then (if t338 = t341 then (if t339 = t342 then ((avocetref04_Same.f t343 t346 t352 t355).bind fun t373 => (if t373 = true then (if t349 = t358 then (if t350 = t359 then (if (!(t361 == bt367.1) || (!(t362 == bt367.2.1) || (!(t363 == bt367.2.2.1)))) = true then (avocetlaw04_TypesIs.j1 kj7 l0 t334 true l2_0 l2_1 l3_0 l3_1 a4_0 a4_1 a4_2 a5_0 a5_1 a5_2) else (if t364 = bt367.2.2.2.1 then (avocetlaw04_TypesIs.j1 kj7 l0 t334 (t365 != bt367.2.2.2.2) l2_0 l2_1 l3_0 l3_1 a4_0 a4_1 a4_2 a5_0 a5_1 a5_2) else (avocetlaw04_TypesIs.j1 kj7 l0 t334 true l2_0 l2_1 l3_0 l3_1 a4_0 a4_1 a4_2 a5_0 a5_1 a5_2))) else (avocetlaw04_TypesIs.j1 kj7 l0 t334 true l2_0 l2_1 l3_0 l3_1 a4_0 a4_1 a4_2 a5_0 a5_1 a5_2)) else (avocetlaw04_TypesIs.j1 kj7 l0 t334 true l2_0 l2_1 l3_0 l3_1 a4_0 a4_1 a4_2 a5_0 a5_1 a5_2)) else (avocetlaw04_TypesIs.j1 kj7 l0 t334 true l2_0 l2_1 l3_0 l3_1 a4_0 a4_1 a4_2 a5_0 a5_1 a5_2))) else (avocetlaw04_TypesIs.j1 kj7 l0 t334 true l2_0 l2_1 l3_0 l3_1 a4_0 a4_1 a4_2 a5_0 a5_1 a5_2)) else (avocetlaw04_TypesIs.j1 kj7 l0 t334 true l2_0 l2_1 l3_0 l3_1 a4_0 a4_1 a4_2 a5_0 a5_1 a5_2)) else (avocetlaw04_TypesIs.j1 kj7 l0 t334 true l2_0 l2_1 l3_0 l3_1 a4_0 a4_1 a4_2 a5_0 a5_1 a5_2))) = some r := H
        have A37 := Aside0.mk A370
        clear A370
        replace H := Option.bind_eq_some_iff.mp H
        obtain ⟨⟨t367, t368, t369, t370, t371⟩, A380, H⟩ := H
        replace H : (if t337 = t340 then (if t338 = t341 then (if t339 = t342 then ((avocetref04_Same.f t343 t346 t352 t355).bind fun t373 => (if t373 = true then (if t349 = t358 then (if t350 = t359 then (if (!(t361 == t367) || (!(t362 == t368) || (!(t363 == t369)))) = true then (avocetlaw04_TypesIs.j1 kj7 l0 t334 true l2_0 l2_1 l3_0 l3_1 a4_0 a4_1 a4_2 a5_0 a5_1 a5_2) else (if t364 = t370 then (avocetlaw04_TypesIs.j1 kj7 l0 t334 (t365 != t371) l2_0 l2_1 l3_0 l3_1 a4_0 a4_1 a4_2 a5_0 a5_1 a5_2) else (avocetlaw04_TypesIs.j1 kj7 l0 t334 true l2_0 l2_1 l3_0 l3_1 a4_0 a4_1 a4_2 a5_0 a5_1 a5_2))) else (avocetlaw04_TypesIs.j1 kj7 l0 t334 true l2_0 l2_1 l3_0 l3_1 a4_0 a4_1 a4_2 a5_0 a5_1 a5_2)) else (avocetlaw04_TypesIs.j1 kj7 l0 t334 true l2_0 l2_1 l3_0 l3_1 a4_0 a4_1 a4_2 a5_0 a5_1 a5_2)) else (avocetlaw04_TypesIs.j1 kj7 l0 t334 true l2_0 l2_1 l3_0 l3_1 a4_0 a4_1 a4_2 a5_0 a5_1 a5_2))) else (avocetlaw04_TypesIs.j1 kj7 l0 t334 true l2_0 l2_1 l3_0 l3_1 a4_0 a4_1 a4_2 a5_0 a5_1 a5_2)) else (avocetlaw04_TypesIs.j1 kj7 l0 t334 true l2_0 l2_1 l3_0 l3_1 a4_0 a4_1 a4_2 a5_0 a5_1 a5_2)) else (avocetlaw04_TypesIs.j1 kj7 l0 t334 true l2_0 l2_1 l3_0 l3_1 a4_0 a4_1 a4_2 a5_0 a5_1 a5_2)) = some r := H
        have A38 := Aside0.mk A380
        clear A380
        have HC39 := Aside0.mk H
        clear H
        go_upto_region 10 with (first | ((with_reducible refine gate_callee (f := 10) rfl ?_); refine goesL_ (some 54) rfl rfl Try.func10 (by kernel_rfl) rfl #[.slice A0 l0.length c0, .int .i64 a1] rfl (by (try simp only [List.map_toArray, List.map_cons, List.map_nil]); first | done | rfl | (simp only [List.length_drop, List.length_take]; rfl)) ?_; (with_reducible refine (types_Val.calls kj7 _ _ l0 a1 t337 t338 t339 _ ?side1 ?side2 A33.out).mono ?_); (case side1 => repeat (first | exact (Kd.C_below HR0.out HB.out) | (with_reducible refine Kd.C_alloc ?_ _) | (with_reducible refine Kd.C_drewN ?_ _) | (with_reducible refine Kd.C_drew ?_))); (case side2 => exact HC0.out); rintro e w' ⟨rfl, ⟨nd, rfl⟩⟩; refine ⟨_, rfl, ?_⟩; (try (rw [drewN_self wc]; generalize hq_ : World.drewN wc _ = wc; have n0_ : Aside0 (wc.heap[gb330]? = some (.cells #[.slice A2_0 l2_0.length c2_0, .slice A2_1 l2_1.length c2_1] 33 (0, 0))) := ⟨by rw [← hq_]; exact (by (with_reducible repeat (first | refine blk_drewN ?_ _ | refine blk_drew ?_ | refine blk_alloc ?_ _)); exact BK330.out)⟩; have n1_ : Aside0 (wc.heap[gb331]? = some (.cells #[.slice A3_0 l3_0.length c3_0, .slice A3_1 l3_1.length c3_1] 33 (0, 0))) := ⟨by rw [← hq_]; exact (by (with_reducible repeat (first | refine blk_drewN ?_ _ | refine blk_drew ?_ | refine blk_alloc ?_ _)); exact BK331.out)⟩; have n2_ : Aside0 (wc.heap[gb332]? = some (.cells #[.int .i64 a4_0, .int .i64 a4_1, .bool a4_2] 29 (0, 0))) := ⟨by rw [← hq_]; exact (by (with_reducible repeat (first | refine blk_drewN ?_ _ | refine blk_drew ?_ | refine blk_alloc ?_ _)); exact BK332.out)⟩; have n3_ : Aside0 (wc.heap[gb333]? = some (.cells #[.int .i64 a5_0, .int .i64 a5_1, .bool a5_2] 29 (0, 0))) := ⟨by rw [← hq_]; exact (by (with_reducible repeat (first | refine blk_drewN ?_ _ | refine blk_drew ?_ | refine blk_alloc ?_ _)); exact BK333.out)⟩; have n4_ : Aside0 (Below w.heap.size w wc) := ⟨by rw [← hq_]; exact (by repeat (first | (with_reducible first | exact HB.out | apply below_alloc | apply pw_below_drewN | apply below_drew1 | refine below_set ?_ GE330.out | refine below_set ?_ GE331.out | refine below_set ?_ GE332.out | refine below_set ?_ GE333.out) | exact HB.out))⟩; clear BK330 BK331 BK332 BK333 HB hq_; have BK330 := n0_; have BK331 := n1_; have BK332 := n2_; have BK333 := n3_; have HB := n4_; clear n0_ n1_ n2_ n3_ n4_))) | ((with_reducible refine gate_callee (f := 19) rfl ?_); refine goesL_ (some 61) rfl rfl Try.func19 (by kernel_rfl) rfl #[.slice A0 l0.length c0, .int .i64 a1] rfl (by (try simp only [List.map_toArray, List.map_cons, List.map_nil]); first | done | rfl | (simp only [List.length_drop, List.length_take]; rfl)) ?_; (with_reducible refine (avocetref04_Val.calls kj7 _ _ l0 a1 t340 t341 t342 _ ?side1 ?side2 A34.out).mono ?_); (case side1 => repeat (first | exact (Kd.C_below HR0.out HB.out) | (with_reducible refine Kd.C_alloc ?_ _) | (with_reducible refine Kd.C_drewN ?_ _) | (with_reducible refine Kd.C_drew ?_))); (case side2 => exact HC0.out); rintro e w' ⟨rfl, ⟨nd, rfl⟩⟩; refine ⟨_, rfl, ?_⟩; (try (rw [drewN_self wc]; generalize hq_ : World.drewN wc _ = wc; have n0_ : Aside0 (wc.heap[gb330]? = some (.cells #[.slice A2_0 l2_0.length c2_0, .slice A2_1 l2_1.length c2_1] 33 (0, 0))) := ⟨by rw [← hq_]; exact (by (with_reducible repeat (first | refine blk_drewN ?_ _ | refine blk_drew ?_ | refine blk_alloc ?_ _)); exact BK330.out)⟩; have n1_ : Aside0 (wc.heap[gb331]? = some (.cells #[.slice A3_0 l3_0.length c3_0, .slice A3_1 l3_1.length c3_1] 33 (0, 0))) := ⟨by rw [← hq_]; exact (by (with_reducible repeat (first | refine blk_drewN ?_ _ | refine blk_drew ?_ | refine blk_alloc ?_ _)); exact BK331.out)⟩; have n2_ : Aside0 (wc.heap[gb332]? = some (.cells #[.int .i64 a4_0, .int .i64 a4_1, .bool a4_2] 29 (0, 0))) := ⟨by rw [← hq_]; exact (by (with_reducible repeat (first | refine blk_drewN ?_ _ | refine blk_drew ?_ | refine blk_alloc ?_ _)); exact BK332.out)⟩; have n3_ : Aside0 (wc.heap[gb333]? = some (.cells #[.int .i64 a5_0, .int .i64 a5_1, .bool a5_2] 29 (0, 0))) := ⟨by rw [← hq_]; exact (by (with_reducible repeat (first | refine blk_drewN ?_ _ | refine blk_drew ?_ | refine blk_alloc ?_ _)); exact BK333.out)⟩; have n4_ : Aside0 (Below w.heap.size w wc) := ⟨by rw [← hq_]; exact (by repeat (first | (with_reducible first | exact HB.out | apply below_alloc | apply pw_below_drewN | apply below_drew1 | refine below_set ?_ GE330.out | refine below_set ?_ GE331.out | refine below_set ?_ GE332.out | refine below_set ?_ GE333.out) | exact HB.out))⟩; clear BK330 BK331 BK332 BK333 HB hq_; have BK330 := n0_; have BK331 := n1_; have BK332 := n2_; have BK333 := n3_; have HB := n4_; clear n0_ n1_ n2_ n3_ n4_))) | ((with_reducible refine gate_callee (f := 16) rfl ?_); refine goesL_ (some 68) rfl rfl Try.func16 (by kernel_rfl) rfl #[.slice A0 l0.length c0, .int .i64 a1] rfl (by (try simp only [List.map_toArray, List.map_cons, List.map_nil]); first | done | rfl | (simp only [List.length_drop, List.length_take]; rfl)) ?_; (with_reducible refine (types_Func.calls kj7 _ _ l0 a1 t343 t346 t349 t350 _ ?side1 ?side2 A35.out).mono ?_); (case side1 => repeat (first | exact (Kd.C_below HR0.out HB.out) | (with_reducible refine Kd.C_alloc ?_ _) | (with_reducible refine Kd.C_drewN ?_ _) | (with_reducible refine Kd.C_drew ?_))); (case side2 => exact HC0.out); rintro e w40 ⟨v344, v347, rfl, ho0, ho1, hb⟩; refine ⟨_, rfl, ?_⟩; have n0_ := Aside0.mk (Kd.R_lower ho0 (below_size (by repeat (first | (with_reducible first | exact HB.out | apply below_alloc | apply pw_below_drewN | apply below_drew1 | refine below_set ?_ GE330.out | refine below_set ?_ GE331.out | refine below_set ?_ GE332.out | refine below_set ?_ GE333.out) | exact HB.out)))); have n1_ := Aside0.mk (Kd.R_lower ho1 (below_size (by repeat (first | (with_reducible first | exact HB.out | apply below_alloc | apply pw_below_drewN | apply below_drew1 | refine below_set ?_ GE330.out | refine below_set ?_ GE331.out | refine below_set ?_ GE332.out | refine below_set ?_ GE333.out) | exact HB.out)))); have n2_ := Aside0.mk (blk_below (g := gb330) (o := .cells #[.slice A2_0 l2_0.length c2_0, .slice A2_1 l2_1.length c2_1] 33 (0, 0)) (by (with_reducible repeat (first | refine blk_drewN ?_ _ | refine blk_drew ?_ | refine blk_alloc ?_ _)); exact BK330.out) hb); have n3_ := Aside0.mk (blk_below (g := gb331) (o := .cells #[.slice A3_0 l3_0.length c3_0, .slice A3_1 l3_1.length c3_1] 33 (0, 0)) (by (with_reducible repeat (first | refine blk_drewN ?_ _ | refine blk_drew ?_ | refine blk_alloc ?_ _)); exact BK331.out) hb); have n4_ := Aside0.mk (blk_below (g := gb332) (o := .cells #[.int .i64 a4_0, .int .i64 a4_1, .bool a4_2] 29 (0, 0)) (by (with_reducible repeat (first | refine blk_drewN ?_ _ | refine blk_drew ?_ | refine blk_alloc ?_ _)); exact BK332.out) hb); have n5_ := Aside0.mk (blk_below (g := gb333) (o := .cells #[.int .i64 a5_0, .int .i64 a5_1, .bool a5_2] 29 (0, 0)) (by (with_reducible repeat (first | refine blk_drewN ?_ _ | refine blk_drew ?_ | refine blk_alloc ?_ _)); exact BK333.out) hb); have n6_ := Aside0.mk (below_step (by repeat (first | (with_reducible first | exact HB.out | apply below_alloc | apply pw_below_drewN | apply below_drew1 | refine below_set ?_ GE330.out | refine below_set ?_ GE331.out | refine below_set ?_ GE332.out | refine below_set ?_ GE333.out) | exact HB.out)) hb); clear BK330; clear BK331; clear BK332; clear BK333; clear HB; have HO345 := n0_; have HO348 := n1_; have BK330 := n2_; have BK331 := n3_; have BK332 := n4_; have BK333 := n5_; have HB := n6_; clear n0_ n1_ n2_ n3_ n4_ n5_ n6_; (try clear hb); (try clear hb2); (try clear hk); (try clear hi); (try clear ho0); (try clear ho1)) | ((with_reducible refine gate_dst (N := 20) rfl ?_); refine box_event ?hg (N := 20) ?hd (cs := #[.slice none 0 0, .slice none 0 0]) (t := 33) ?hr ?_; (case hd => rfl); (case hg => rfl); (case hr => first | (go_simp; done) | (go_simp; rfl)); intro gb351 hg w41 hbox hb; have n0_ := Aside0.mk (Kd.R_below (by (with_reducible repeat (first | apply Kd.R_alloc | apply Kd.R_drewN | apply Kd.R_drew)); exact HO345.out) hb); have n1_ := Aside0.mk (Kd.R_below (by (with_reducible repeat (first | apply Kd.R_alloc | apply Kd.R_drewN | apply Kd.R_drew)); exact HO348.out) hb); have n2_ := Aside0.mk (blk_below (g := gb330) (o := .cells #[.slice A2_0 l2_0.length c2_0, .slice A2_1 l2_1.length c2_1] 33 (0, 0)) (by (with_reducible repeat (first | refine blk_drewN ?_ _ | refine blk_drew ?_ | refine blk_alloc ?_ _)); exact BK330.out) hb); have n3_ := Aside0.mk (blk_below (g := gb331) (o := .cells #[.slice A3_0 l3_0.length c3_0, .slice A3_1 l3_1.length c3_1] 33 (0, 0)) (by (with_reducible repeat (first | refine blk_drewN ?_ _ | refine blk_drew ?_ | refine blk_alloc ?_ _)); exact BK331.out) hb); have n4_ := Aside0.mk (blk_below (g := gb332) (o := .cells #[.int .i64 a4_0, .int .i64 a4_1, .bool a4_2] 29 (0, 0)) (by (with_reducible repeat (first | refine blk_drewN ?_ _ | refine blk_drew ?_ | refine blk_alloc ?_ _)); exact BK332.out) hb); have n5_ := Aside0.mk (blk_below (g := gb333) (o := .cells #[.int .i64 a5_0, .int .i64 a5_1, .bool a5_2] 29 (0, 0)) (by (with_reducible repeat (first | refine blk_drewN ?_ _ | refine blk_drew ?_ | refine blk_alloc ?_ _)); exact BK333.out) hb); have n6_ := Aside0.mk (below_step (by repeat (first | (with_reducible first | exact HB.out | apply below_alloc | apply pw_below_drewN | apply below_drew1 | refine below_set ?_ GE330.out | refine below_set ?_ GE331.out | refine below_set ?_ GE332.out | refine below_set ?_ GE333.out) | exact HB.out)) hb); have n7_ := Aside0.mk (hbox); have n8_ := Aside0.mk ((by rw [hg]; exact (below_size (by repeat (first | (with_reducible first | exact HB.out | apply below_alloc | apply pw_below_drewN | apply below_drew1 | refine below_set ?_ GE330.out | refine below_set ?_ GE331.out | refine below_set ?_ GE332.out | refine below_set ?_ GE333.out) | exact HB.out))) : w.heap.size ≤ gb351)); have n9_ := Aside0.mk ((by rw [hg]; exact (below_size (by repeat (first | (with_reducible first | exact HB.out | apply below_alloc | apply pw_below_drewN | apply below_drew1 | refine below_set ?_ GE330.out | refine below_set ?_ GE331.out | refine below_set ?_ GE332.out | refine below_set ?_ GE333.out) | exact HB.out))) : w.heap.size ≤ gb351)); have n10_ := Aside0.mk ((by rw [hg]; exact Nat.ne_of_lt (blk_lt (g := gb330) (o := .cells #[.slice A2_0 l2_0.length c2_0, .slice A2_1 l2_1.length c2_1] 33 (0, 0)) (by (with_reducible repeat (first | refine blk_drewN ?_ _ | refine blk_drew ?_ | refine blk_alloc ?_ _)); exact BK330.out)) : gb330 ≠ gb351)); have n11_ := Aside0.mk ((by rw [hg]; exact Nat.ne_of_gt (blk_lt (g := gb330) (o := .cells #[.slice A2_0 l2_0.length c2_0, .slice A2_1 l2_1.length c2_1] 33 (0, 0)) (by (with_reducible repeat (first | refine blk_drewN ?_ _ | refine blk_drew ?_ | refine blk_alloc ?_ _)); exact BK330.out)) : gb351 ≠ gb330)); have n12_ := Aside0.mk ((by rw [hg]; exact Nat.ne_of_lt (blk_lt (g := gb331) (o := .cells #[.slice A3_0 l3_0.length c3_0, .slice A3_1 l3_1.length c3_1] 33 (0, 0)) (by (with_reducible repeat (first | refine blk_drewN ?_ _ | refine blk_drew ?_ | refine blk_alloc ?_ _)); exact BK331.out)) : gb331 ≠ gb351)); have n13_ := Aside0.mk ((by rw [hg]; exact Nat.ne_of_gt (blk_lt (g := gb331) (o := .cells #[.slice A3_0 l3_0.length c3_0, .slice A3_1 l3_1.length c3_1] 33 (0, 0)) (by (with_reducible repeat (first | refine blk_drewN ?_ _ | refine blk_drew ?_ | refine blk_alloc ?_ _)); exact BK331.out)) : gb351 ≠ gb331)); have n14_ := Aside0.mk ((by rw [hg]; exact Nat.ne_of_lt (blk_lt (g := gb332) (o := .cells #[.int .i64 a4_0, .int .i64 a4_1, .bool a4_2] 29 (0, 0)) (by (with_reducible repeat (first | refine blk_drewN ?_ _ | refine blk_drew ?_ | refine blk_alloc ?_ _)); exact BK332.out)) : gb332 ≠ gb351)); have n15_ := Aside0.mk ((by rw [hg]; exact Nat.ne_of_gt (blk_lt (g := gb332) (o := .cells #[.int .i64 a4_0, .int .i64 a4_1, .bool a4_2] 29 (0, 0)) (by (with_reducible repeat (first | refine blk_drewN ?_ _ | refine blk_drew ?_ | refine blk_alloc ?_ _)); exact BK332.out)) : gb351 ≠ gb332)); have n16_ := Aside0.mk ((by rw [hg]; exact Nat.ne_of_lt (blk_lt (g := gb333) (o := .cells #[.int .i64 a5_0, .int .i64 a5_1, .bool a5_2] 29 (0, 0)) (by (with_reducible repeat (first | refine blk_drewN ?_ _ | refine blk_drew ?_ | refine blk_alloc ?_ _)); exact BK333.out)) : gb333 ≠ gb351)); have n17_ := Aside0.mk ((by rw [hg]; exact Nat.ne_of_gt (blk_lt (g := gb333) (o := .cells #[.int .i64 a5_0, .int .i64 a5_1, .bool a5_2] 29 (0, 0)) (by (with_reducible repeat (first | refine blk_drewN ?_ _ | refine blk_drew ?_ | refine blk_alloc ?_ _)); exact BK333.out)) : gb351 ≠ gb333)); clear HO345; clear HO348; clear BK330; clear BK331; clear BK332; clear BK333; clear HB; have HO345 := n0_; have HO348 := n1_; have BK330 := n2_; have BK331 := n3_; have BK332 := n4_; have BK333 := n5_; have HB := n6_; have BK351 := n7_; have GW351 := n8_; have GE351 := n9_; have NB330_351 := n10_; have NB351_330 := n11_; have NB331_351 := n12_; have NB351_331 := n13_; have NB332_351 := n14_; have NB351_332 := n15_; have NB333_351 := n16_; have NB351_333 := n17_; clear n0_ n1_ n2_ n3_ n4_ n5_ n6_ n7_ n8_ n9_ n10_ n11_ n12_ n13_ n14_ n15_ n16_ n17_; clear hb hbox hg; obtain ⟨Ao42, co42, eo42⟩ := Kd.R_slice HO345.out; subst eo42; have hnb43 := NB351_330.out; have hnc43 := NB330_351.out; have hnb44 := NB351_331.out; have hnc44 := NB331_351.out; have hnb45 := NB351_332.out; have hnc45 := NB332_351.out; have hnb46 := NB351_333.out; have hnc46 := NB333_351.out; have hcz47_0 : w41.cell? ⟨gb351, 0, none⟩ = some (.slice none 0 0) := (blk_cell BK351.out 0).trans rfl; have hcz47_1 : w41.cell? ⟨gb351, 1, none⟩ = some (.slice none 0 0) := (blk_cell BK351.out 1).trans rfl; have hfz47_0 := blk_frozen BK351.out 0; have hfz47_1 := blk_frozen BK351.out 1; obtain ⟨Ao48, co48, eo48⟩ := Kd.R_slice HO348.out; subst eo48) | ((with_reducible refine gate_callee (f := 20) rfl ?_); refine goesL_ (some 75) rfl rfl Try.func20 (by kernel_rfl) rfl #[.slice A0 l0.length c0, .int .i64 a1] rfl (by (try simp only [List.map_toArray, List.map_cons, List.map_nil]); first | done | rfl | (simp only [List.length_drop, List.length_take]; rfl)) ?_; (with_reducible refine (avocetref04_Func.calls kj7 _ _ l0 a1 t352 t355 t358 t359 _ ?side1 ?side2 A36.out).mono ?_); (case side1 => exact Kd.C_below HR0.out (by repeat (first | (with_reducible first | exact HB.out | apply below_alloc | apply pw_below_drewN | apply below_drew1 | refine below_set ?_ GE330.out | refine below_set ?_ GE331.out | refine below_set ?_ GE332.out | refine below_set ?_ GE333.out | refine below_set ?_ GE351.out) | exact HB.out))); (case side2 => exact HC0.out); rintro e w49 ⟨v353, v356, rfl, ho0, ho1, hb⟩; refine ⟨_, rfl, ?_⟩; have n0_ := Aside0.mk (Kd.R_mono (Kd.R_told (Kd.R_told (Kd.R_old (by (with_reducible repeat (first | apply Kd.R_alloc | apply Kd.R_drewN | apply Kd.R_drew)); exact (Kd.R_mono (Kd.R_far (p := ⟨gb351, 1, none⟩) (Kd.R_far (p := ⟨gb351, 0, none⟩) (Kd.R_types HO345.out BK351.out (by decide)) (fun _ hk => hk.2) (.slice Ao42 t343.length co42)) (fun _ hk => hk.2) (.slice Ao48 t346.length co48)) (fun _ h_ => h_.1))) hb) (Kd.R_base ho0)) (Kd.R_base ho1)) (fun _ h_ => h_.1)); have n1_ := Aside0.mk (Kd.R_mono (Kd.R_told (Kd.R_told (Kd.R_old (by (with_reducible repeat (first | apply Kd.R_alloc | apply Kd.R_drewN | apply Kd.R_drew)); exact (Kd.R_mono (Kd.R_far (p := ⟨gb351, 1, none⟩) (Kd.R_far (p := ⟨gb351, 0, none⟩) (Kd.R_types HO348.out BK351.out (by decide)) (fun _ hk => hk.2) (.slice Ao42 t343.length co42)) (fun _ hk => hk.2) (.slice Ao48 t346.length co48)) (fun _ h_ => h_.1))) hb) (Kd.R_base ho0)) (Kd.R_base ho1)) (fun _ h_ => h_.1)); have n2_ := Aside0.mk (Kd.R_lower (Kd.R_new' (Kd.R_new' ho0 (Kd.R_lt (by (with_reducible repeat (first | apply Kd.R_alloc | apply Kd.R_drewN | apply Kd.R_drew)); exact (Kd.R_mono (Kd.R_far (p := ⟨gb351, 1, none⟩) (Kd.R_far (p := ⟨gb351, 0, none⟩) (Kd.R_types HO345.out BK351.out (by decide)) (fun _ hk => hk.2) (.slice Ao42 t343.length co42)) (fun _ hk => hk.2) (.slice Ao48 t346.length co48)) (fun _ h_ => h_.1))))) (Kd.R_lt (by (with_reducible repeat (first | apply Kd.R_alloc | apply Kd.R_drewN | apply Kd.R_drew)); exact (Kd.R_mono (Kd.R_far (p := ⟨gb351, 1, none⟩) (Kd.R_far (p := ⟨gb351, 0, none⟩) (Kd.R_types HO348.out BK351.out (by decide)) (fun _ hk => hk.2) (.slice Ao42 t343.length co42)) (fun _ hk => hk.2) (.slice Ao48 t346.length co48)) (fun _ h_ => h_.1))))) (below_size (by repeat (first | (with_reducible first | exact HB.out | apply below_alloc | apply pw_below_drewN | apply below_drew1 | refine below_set ?_ GE330.out | refine below_set ?_ GE331.out | refine below_set ?_ GE332.out | refine below_set ?_ GE333.out | refine below_set ?_ GE351.out) | exact HB.out)))); have n3_ := Aside0.mk (Kd.R_lower (Kd.R_new' (Kd.R_new' ho1 (Kd.R_lt (by (with_reducible repeat (first | apply Kd.R_alloc | apply Kd.R_drewN | apply Kd.R_drew)); exact (Kd.R_mono (Kd.R_far (p := ⟨gb351, 1, none⟩) (Kd.R_far (p := ⟨gb351, 0, none⟩) (Kd.R_types HO345.out BK351.out (by decide)) (fun _ hk => hk.2) (.slice Ao42 t343.length co42)) (fun _ hk => hk.2) (.slice Ao48 t346.length co48)) (fun _ h_ => h_.1))))) (Kd.R_lt (by (with_reducible repeat (first | apply Kd.R_alloc | apply Kd.R_drewN | apply Kd.R_drew)); exact (Kd.R_mono (Kd.R_far (p := ⟨gb351, 1, none⟩) (Kd.R_far (p := ⟨gb351, 0, none⟩) (Kd.R_types HO348.out BK351.out (by decide)) (fun _ hk => hk.2) (.slice Ao42 t343.length co42)) (fun _ hk => hk.2) (.slice Ao48 t346.length co48)) (fun _ h_ => h_.1))))) (below_size (by repeat (first | (with_reducible first | exact HB.out | apply below_alloc | apply pw_below_drewN | apply below_drew1 | refine below_set ?_ GE330.out | refine below_set ?_ GE331.out | refine below_set ?_ GE332.out | refine below_set ?_ GE333.out | refine below_set ?_ GE351.out) | exact HB.out)))); have n4_ := Aside0.mk (blk_below (g := gb330) (o := .cells #[.slice A2_0 l2_0.length c2_0, .slice A2_1 l2_1.length c2_1] 33 (0, 0)) (by (with_reducible repeat (first | refine blk_drewN ?_ _ | refine blk_drew ?_ | refine blk_alloc ?_ _)); refine blk_far ?_ NB330_351.out _; (with_reducible repeat (first | refine blk_drewN ?_ _ | refine blk_drew ?_ | refine blk_alloc ?_ _)); refine blk_far ?_ NB330_351.out _; (with_reducible repeat (first | refine blk_drewN ?_ _ | refine blk_drew ?_ | refine blk_alloc ?_ _)); exact BK330.out) hb); have n5_ := Aside0.mk (blk_below (g := gb331) (o := .cells #[.slice A3_0 l3_0.length c3_0, .slice A3_1 l3_1.length c3_1] 33 (0, 0)) (by (with_reducible repeat (first | refine blk_drewN ?_ _ | refine blk_drew ?_ | refine blk_alloc ?_ _)); refine blk_far ?_ NB331_351.out _; (with_reducible repeat (first | refine blk_drewN ?_ _ | refine blk_drew ?_ | refine blk_alloc ?_ _)); refine blk_far ?_ NB331_351.out _; (with_reducible repeat (first | refine blk_drewN ?_ _ | refine blk_drew ?_ | refine blk_alloc ?_ _)); exact BK331.out) hb); have n6_ := Aside0.mk (blk_below (g := gb332) (o := .cells #[.int .i64 a4_0, .int .i64 a4_1, .bool a4_2] 29 (0, 0)) (by (with_reducible repeat (first | refine blk_drewN ?_ _ | refine blk_drew ?_ | refine blk_alloc ?_ _)); refine blk_far ?_ NB332_351.out _; (with_reducible repeat (first | refine blk_drewN ?_ _ | refine blk_drew ?_ | refine blk_alloc ?_ _)); refine blk_far ?_ NB332_351.out _; (with_reducible repeat (first | refine blk_drewN ?_ _ | refine blk_drew ?_ | refine blk_alloc ?_ _)); exact BK332.out) hb); have n7_ := Aside0.mk (blk_below (g := gb333) (o := .cells #[.int .i64 a5_0, .int .i64 a5_1, .bool a5_2] 29 (0, 0)) (by (with_reducible repeat (first | refine blk_drewN ?_ _ | refine blk_drew ?_ | refine blk_alloc ?_ _)); refine blk_far ?_ NB333_351.out _; (with_reducible repeat (first | refine blk_drewN ?_ _ | refine blk_drew ?_ | refine blk_alloc ?_ _)); refine blk_far ?_ NB333_351.out _; (with_reducible repeat (first | refine blk_drewN ?_ _ | refine blk_drew ?_ | refine blk_alloc ?_ _)); exact BK333.out) hb); have n8_ := Aside0.mk (blk_below (g := gb351) (o := .cells #[.slice Ao42 t343.length co42, .slice Ao48 t346.length co48] 33 (0, 0)) (by (with_reducible repeat (first | refine blk_drewN ?_ _ | refine blk_drew ?_ | refine blk_alloc ?_ _)); refine blk_put (cs := #[.slice Ao42 t343.length co42, .slice none 0 0]) ?_ 1 _ rfl; (with_reducible repeat (first | refine blk_drewN ?_ _ | refine blk_drew ?_ | refine blk_alloc ?_ _)); refine blk_put (cs := #[.slice none 0 0, .slice none 0 0]) ?_ 0 _ rfl; (with_reducible repeat (first | refine blk_drewN ?_ _ | refine blk_drew ?_ | refine blk_alloc ?_ _)); exact BK351.out) hb); have n9_ := Aside0.mk (below_step (by repeat (first | (with_reducible first | exact HB.out | apply below_alloc | apply pw_below_drewN | apply below_drew1 | refine below_set ?_ GE330.out | refine below_set ?_ GE331.out | refine below_set ?_ GE332.out | refine below_set ?_ GE333.out | refine below_set ?_ GE351.out) | exact HB.out)) hb); clear HO345; clear HO348; clear BK330; clear BK331; clear BK332; clear BK333; clear BK351; clear HB; have HO345 := n0_; have HO348 := n1_; have HO354 := n2_; have HO357 := n3_; have BK330 := n4_; have BK331 := n5_; have BK332 := n6_; have BK333 := n7_; have BK351 := n8_; have HB := n9_; clear n0_ n1_ n2_ n3_ n4_ n5_ n6_ n7_ n8_ n9_; (try clear hb); (try clear hb2); (try clear hk); (try clear hi); (try clear ho0); (try clear ho1)) | ((with_reducible refine gate_dst (N := 23) rfl ?_); refine box_event ?hg (N := 23) ?hd (cs := #[.slice none 0 0, .slice none 0 0]) (t := 33) ?hr ?_; (case hd => rfl); (case hg => rfl); (case hr => first | (go_simp; done) | (go_simp; rfl)); intro gb360 hg w50 hbox hb; have n0_ := Aside0.mk (Kd.R_below (by (with_reducible repeat (first | apply Kd.R_alloc | apply Kd.R_drewN | apply Kd.R_drew)); exact HO345.out) hb); have n1_ := Aside0.mk (Kd.R_below (by (with_reducible repeat (first | apply Kd.R_alloc | apply Kd.R_drewN | apply Kd.R_drew)); exact HO348.out) hb); have n2_ := Aside0.mk (Kd.R_below (by (with_reducible repeat (first | apply Kd.R_alloc | apply Kd.R_drewN | apply Kd.R_drew)); exact HO354.out) hb); have n3_ := Aside0.mk (Kd.R_below (by (with_reducible repeat (first | apply Kd.R_alloc | apply Kd.R_drewN | apply Kd.R_drew)); exact HO357.out) hb); have n4_ := Aside0.mk (blk_below (g := gb330) (o := .cells #[.slice A2_0 l2_0.length c2_0, .slice A2_1 l2_1.length c2_1] 33 (0, 0)) (by (with_reducible repeat (first | refine blk_drewN ?_ _ | refine blk_drew ?_ | refine blk_alloc ?_ _)); exact BK330.out) hb); have n5_ := Aside0.mk (blk_below (g := gb331) (o := .cells #[.slice A3_0 l3_0.length c3_0, .slice A3_1 l3_1.length c3_1] 33 (0, 0)) (by (with_reducible repeat (first | refine blk_drewN ?_ _ | refine blk_drew ?_ | refine blk_alloc ?_ _)); exact BK331.out) hb); have n6_ := Aside0.mk (blk_below (g := gb332) (o := .cells #[.int .i64 a4_0, .int .i64 a4_1, .bool a4_2] 29 (0, 0)) (by (with_reducible repeat (first | refine blk_drewN ?_ _ | refine blk_drew ?_ | refine blk_alloc ?_ _)); exact BK332.out) hb); have n7_ := Aside0.mk (blk_below (g := gb333) (o := .cells #[.int .i64 a5_0, .int .i64 a5_1, .bool a5_2] 29 (0, 0)) (by (with_reducible repeat (first | refine blk_drewN ?_ _ | refine blk_drew ?_ | refine blk_alloc ?_ _)); exact BK333.out) hb); have n8_ := Aside0.mk (blk_below (g := gb351) (o := .cells #[.slice Ao42 t343.length co42, .slice Ao48 t346.length co48] 33 (0, 0)) (by (with_reducible repeat (first | refine blk_drewN ?_ _ | refine blk_drew ?_ | refine blk_alloc ?_ _)); exact BK351.out) hb); have n9_ := Aside0.mk (below_step (by repeat (first | (with_reducible first | exact HB.out | apply below_alloc | apply pw_below_drewN | apply below_drew1 | refine below_set ?_ GE330.out | refine below_set ?_ GE331.out | refine below_set ?_ GE332.out | refine below_set ?_ GE333.out | refine below_set ?_ GE351.out) | exact HB.out)) hb); have n10_ := Aside0.mk (hbox); have n11_ := Aside0.mk ((by rw [hg]; exact (below_size (by repeat (first | (with_reducible first | exact HB.out | apply below_alloc | apply pw_below_drewN | apply below_drew1 | refine below_set ?_ GE330.out | refine below_set ?_ GE331.out | refine below_set ?_ GE332.out | refine below_set ?_ GE333.out | refine below_set ?_ GE351.out) | exact HB.out))) : w.heap.size ≤ gb360)); have n12_ := Aside0.mk ((by rw [hg]; exact (below_size (by repeat (first | (with_reducible first | exact HB.out | apply below_alloc | apply pw_below_drewN | apply below_drew1 | refine below_set ?_ GE330.out | refine below_set ?_ GE331.out | refine below_set ?_ GE332.out | refine below_set ?_ GE333.out | refine below_set ?_ GE351.out) | exact HB.out))) : w.heap.size ≤ gb360)); have n13_ := Aside0.mk ((by rw [hg]; exact Nat.ne_of_lt (blk_lt (g := gb330) (o := .cells #[.slice A2_0 l2_0.length c2_0, .slice A2_1 l2_1.length c2_1] 33 (0, 0)) (by (with_reducible repeat (first | refine blk_drewN ?_ _ | refine blk_drew ?_ | refine blk_alloc ?_ _)); exact BK330.out)) : gb330 ≠ gb360)); have n14_ := Aside0.mk ((by rw [hg]; exact Nat.ne_of_gt (blk_lt (g := gb330) (o := .cells #[.slice A2_0 l2_0.length c2_0, .slice A2_1 l2_1.length c2_1] 33 (0, 0)) (by (with_reducible repeat (first | refine blk_drewN ?_ _ | refine blk_drew ?_ | refine blk_alloc ?_ _)); exact BK330.out)) : gb360 ≠ gb330)); have n15_ := Aside0.mk ((by rw [hg]; exact Nat.ne_of_lt (blk_lt (g := gb331) (o := .cells #[.slice A3_0 l3_0.length c3_0, .slice A3_1 l3_1.length c3_1] 33 (0, 0)) (by (with_reducible repeat (first | refine blk_drewN ?_ _ | refine blk_drew ?_ | refine blk_alloc ?_ _)); exact BK331.out)) : gb331 ≠ gb360)); have n16_ := Aside0.mk ((by rw [hg]; exact Nat.ne_of_gt (blk_lt (g := gb331) (o := .cells #[.slice A3_0 l3_0.length c3_0, .slice A3_1 l3_1.length c3_1] 33 (0, 0)) (by (with_reducible repeat (first | refine blk_drewN ?_ _ | refine blk_drew ?_ | refine blk_alloc ?_ _)); exact BK331.out)) : gb360 ≠ gb331)); have n17_ := Aside0.mk ((by rw [hg]; exact Nat.ne_of_lt (blk_lt (g := gb332) (o := .cells #[.int .i64 a4_0, .int .i64 a4_1, .bool a4_2] 29 (0, 0)) (by (with_reducible repeat (first | refine blk_drewN ?_ _ | refine blk_drew ?_ | refine blk_alloc ?_ _)); exact BK332.out)) : gb332 ≠ gb360)); have n18_ := Aside0.mk ((by rw [hg]; exact Nat.ne_of_gt (blk_lt (g := gb332) (o := .cells #[.int .i64 a4_0, .int .i64 a4_1, .bool a4_2] 29 (0, 0)) (by (with_reducible repeat (first | refine blk_drewN ?_ _ | refine blk_drew ?_ | refine blk_alloc ?_ _)); exact BK332.out)) : gb360 ≠ gb332)); have n19_ := Aside0.mk ((by rw [hg]; exact Nat.ne_of_lt (blk_lt (g := gb333) (o := .cells #[.int .i64 a5_0, .int .i64 a5_1, .bool a5_2] 29 (0, 0)) (by (with_reducible repeat (first | refine blk_drewN ?_ _ | refine blk_drew ?_ | refine blk_alloc ?_ _)); exact BK333.out)) : gb333 ≠ gb360)); have n20_ := Aside0.mk ((by rw [hg]; exact Nat.ne_of_gt (blk_lt (g := gb333) (o := .cells #[.int .i64 a5_0, .int .i64 a5_1, .bool a5_2] 29 (0, 0)) (by (with_reducible repeat (first | refine blk_drewN ?_ _ | refine blk_drew ?_ | refine blk_alloc ?_ _)); exact BK333.out)) : gb360 ≠ gb333)); have n21_ := Aside0.mk ((by rw [hg]; exact Nat.ne_of_lt (blk_lt (g := gb351) (o := .cells #[.slice Ao42 t343.length co42, .slice Ao48 t346.length co48] 33 (0, 0)) (by (with_reducible repeat (first | refine blk_drewN ?_ _ | refine blk_drew ?_ | refine blk_alloc ?_ _)); exact BK351.out)) : gb351 ≠ gb360)); have n22_ := Aside0.mk ((by rw [hg]; exact Nat.ne_of_gt (blk_lt (g := gb351) (o := .cells #[.slice Ao42 t343.length co42, .slice Ao48 t346.length co48] 33 (0, 0)) (by (with_reducible repeat (first | refine blk_drewN ?_ _ | refine blk_drew ?_ | refine blk_alloc ?_ _)); exact BK351.out)) : gb360 ≠ gb351)); clear HO345; clear HO348; clear HO354; clear HO357; clear BK330; clear BK331; clear BK332; clear BK333; clear BK351; clear HB; have HO345 := n0_; have HO348 := n1_; have HO354 := n2_; have HO357 := n3_; have BK330 := n4_; have BK331 := n5_; have BK332 := n6_; have BK333 := n7_; have BK351 := n8_; have HB := n9_; have BK360 := n10_; have GW360 := n11_; have GE360 := n12_; have NB330_360 := n13_; have NB360_330 := n14_; have NB331_360 := n15_; have NB360_331 := n16_; have NB332_360 := n17_; have NB360_332 := n18_; have NB333_360 := n19_; have NB360_333 := n20_; have NB351_360 := n21_; have NB360_351 := n22_; clear n0_ n1_ n2_ n3_ n4_ n5_ n6_ n7_ n8_ n9_ n10_ n11_ n12_ n13_ n14_ n15_ n16_ n17_ n18_ n19_ n20_ n21_ n22_; clear hb hbox hg; obtain ⟨Ao51, co51, eo51⟩ := Kd.R_slice HO354.out; subst eo51; have hnb52 := NB360_330.out; have hnc52 := NB330_360.out; have hnb53 := NB360_331.out; have hnc53 := NB331_360.out; have hnb54 := NB360_332.out; have hnc54 := NB332_360.out; have hnb55 := NB360_333.out; have hnc55 := NB333_360.out; have hnb56 := NB360_351.out; have hnc56 := NB351_360.out; have hcz57_0 : w50.cell? ⟨gb360, 0, none⟩ = some (.slice none 0 0) := (blk_cell BK360.out 0).trans rfl; have hcz57_1 : w50.cell? ⟨gb360, 1, none⟩ = some (.slice none 0 0) := (blk_cell BK360.out 1).trans rfl; have hfz57_0 := blk_frozen BK360.out 0; have hfz57_1 := blk_frozen BK360.out 1; obtain ⟨Ao58, co58, eo58⟩ := Kd.R_slice HO357.out; subst eo58) | ((with_reducible refine gate_callee (f := 17) rfl ?_); refine goesL_ (some 82) rfl rfl Try.func17 (by kernel_rfl) rfl #[.slice A0 l0.length c0, .int .i64 a1] rfl (by (try simp only [List.map_toArray, List.map_cons, List.map_nil]); first | done | rfl | (simp only [List.length_drop, List.length_take]; rfl)) ?_; (with_reducible refine (types_Limits.calls _ _ l0 a1 t361 t362 t363 t364 t365 _ ?side1 ?side2 A37.out).mono ?_); (case side1 => exact Kd.C_below HR0.out (by repeat (first | (with_reducible first | exact HB.out | apply below_alloc | apply pw_below_drewN | apply below_drew1 | refine below_set ?_ GE330.out | refine below_set ?_ GE331.out | refine below_set ?_ GE332.out | refine below_set ?_ GE333.out | refine below_set ?_ GE351.out | refine below_set ?_ GE360.out) | exact HB.out))); (case side2 => exact HC0.out); rintro e w59 ⟨rfl, hb⟩; refine ⟨_, rfl, ?_⟩; have n0_ := Aside0.mk (Kd.R_below (by (with_reducible repeat (first | apply Kd.R_alloc | apply Kd.R_drewN | apply Kd.R_drew)); exact (Kd.R_mono (Kd.R_far (p := ⟨gb360, 1, none⟩) (Kd.R_far (p := ⟨gb360, 0, none⟩) (Kd.R_types HO345.out BK360.out (by decide)) (fun _ hk => hk.2) (.slice Ao51 t352.length co51)) (fun _ hk => hk.2) (.slice Ao58 t355.length co58)) (fun _ h_ => h_.1))) hb); have n1_ := Aside0.mk (Kd.R_below (by (with_reducible repeat (first | apply Kd.R_alloc | apply Kd.R_drewN | apply Kd.R_drew)); exact (Kd.R_mono (Kd.R_far (p := ⟨gb360, 1, none⟩) (Kd.R_far (p := ⟨gb360, 0, none⟩) (Kd.R_types HO348.out BK360.out (by decide)) (fun _ hk => hk.2) (.slice Ao51 t352.length co51)) (fun _ hk => hk.2) (.slice Ao58 t355.length co58)) (fun _ h_ => h_.1))) hb); have n2_ := Aside0.mk (Kd.R_below (by (with_reducible repeat (first | apply Kd.R_alloc | apply Kd.R_drewN | apply Kd.R_drew)); exact (Kd.R_mono (Kd.R_far (p := ⟨gb360, 1, none⟩) (Kd.R_far (p := ⟨gb360, 0, none⟩) (Kd.R_types HO354.out BK360.out (by decide)) (fun _ hk => hk.2) (.slice Ao51 t352.length co51)) (fun _ hk => hk.2) (.slice Ao58 t355.length co58)) (fun _ h_ => h_.1))) hb); have n3_ := Aside0.mk (Kd.R_below (by (with_reducible repeat (first | apply Kd.R_alloc | apply Kd.R_drewN | apply Kd.R_drew)); exact (Kd.R_mono (Kd.R_far (p := ⟨gb360, 1, none⟩) (Kd.R_far (p := ⟨gb360, 0, none⟩) (Kd.R_types HO357.out BK360.out (by decide)) (fun _ hk => hk.2) (.slice Ao51 t352.length co51)) (fun _ hk => hk.2) (.slice Ao58 t355.length co58)) (fun _ h_ => h_.1))) hb); have n4_ := Aside0.mk (blk_below (g := gb330) (o := .cells #[.slice A2_0 l2_0.length c2_0, .slice A2_1 l2_1.length c2_1] 33 (0, 0)) (by (with_reducible repeat (first | refine blk_drewN ?_ _ | refine blk_drew ?_ | refine blk_alloc ?_ _)); refine blk_far ?_ NB330_360.out _; (with_reducible repeat (first | refine blk_drewN ?_ _ | refine blk_drew ?_ | refine blk_alloc ?_ _)); refine blk_far ?_ NB330_360.out _; (with_reducible repeat (first | refine blk_drewN ?_ _ | refine blk_drew ?_ | refine blk_alloc ?_ _)); exact BK330.out) hb); have n5_ := Aside0.mk (blk_below (g := gb331) (o := .cells #[.slice A3_0 l3_0.length c3_0, .slice A3_1 l3_1.length c3_1] 33 (0, 0)) (by (with_reducible repeat (first | refine blk_drewN ?_ _ | refine blk_drew ?_ | refine blk_alloc ?_ _)); refine blk_far ?_ NB331_360.out _; (with_reducible repeat (first | refine blk_drewN ?_ _ | refine blk_drew ?_ | refine blk_alloc ?_ _)); refine blk_far ?_ NB331_360.out _; (with_reducible repeat (first | refine blk_drewN ?_ _ | refine blk_drew ?_ | refine blk_alloc ?_ _)); exact BK331.out) hb); have n6_ := Aside0.mk (blk_below (g := gb332) (o := .cells #[.int .i64 a4_0, .int .i64 a4_1, .bool a4_2] 29 (0, 0)) (by (with_reducible repeat (first | refine blk_drewN ?_ _ | refine blk_drew ?_ | refine blk_alloc ?_ _)); refine blk_far ?_ NB332_360.out _; (with_reducible repeat (first | refine blk_drewN ?_ _ | refine blk_drew ?_ | refine blk_alloc ?_ _)); refine blk_far ?_ NB332_360.out _; (with_reducible repeat (first | refine blk_drewN ?_ _ | refine blk_drew ?_ | refine blk_alloc ?_ _)); exact BK332.out) hb); have n7_ := Aside0.mk (blk_below (g := gb333) (o := .cells #[.int .i64 a5_0, .int .i64 a5_1, .bool a5_2] 29 (0, 0)) (by (with_reducible repeat (first | refine blk_drewN ?_ _ | refine blk_drew ?_ | refine blk_alloc ?_ _)); refine blk_far ?_ NB333_360.out _; (with_reducible repeat (first | refine blk_drewN ?_ _ | refine blk_drew ?_ | refine blk_alloc ?_ _)); refine blk_far ?_ NB333_360.out _; (with_reducible repeat (first | refine blk_drewN ?_ _ | refine blk_drew ?_ | refine blk_alloc ?_ _)); exact BK333.out) hb); have n8_ := Aside0.mk (blk_below (g := gb351) (o := .cells #[.slice Ao42 t343.length co42, .slice Ao48 t346.length co48] 33 (0, 0)) (by (with_reducible repeat (first | refine blk_drewN ?_ _ | refine blk_drew ?_ | refine blk_alloc ?_ _)); refine blk_far ?_ NB351_360.out _; (with_reducible repeat (first | refine blk_drewN ?_ _ | refine blk_drew ?_ | refine blk_alloc ?_ _)); refine blk_far ?_ NB351_360.out _; (with_reducible repeat (first | refine blk_drewN ?_ _ | refine blk_drew ?_ | refine blk_alloc ?_ _)); exact BK351.out) hb); have n9_ := Aside0.mk (blk_below (g := gb360) (o := .cells #[.slice Ao51 t352.length co51, .slice Ao58 t355.length co58] 33 (0, 0)) (by (with_reducible repeat (first | refine blk_drewN ?_ _ | refine blk_drew ?_ | refine blk_alloc ?_ _)); refine blk_put (cs := #[.slice Ao51 t352.length co51, .slice none 0 0]) ?_ 1 _ rfl; (with_reducible repeat (first | refine blk_drewN ?_ _ | refine blk_drew ?_ | refine blk_alloc ?_ _)); refine blk_put (cs := #[.slice none 0 0, .slice none 0 0]) ?_ 0 _ rfl; (with_reducible repeat (first | refine blk_drewN ?_ _ | refine blk_drew ?_ | refine blk_alloc ?_ _)); exact BK360.out) hb); have n10_ := Aside0.mk (below_step (by repeat (first | (with_reducible first | exact HB.out | apply below_alloc | apply pw_below_drewN | apply below_drew1 | refine below_set ?_ GE330.out | refine below_set ?_ GE331.out | refine below_set ?_ GE332.out | refine below_set ?_ GE333.out | refine below_set ?_ GE351.out | refine below_set ?_ GE360.out) | exact HB.out)) hb); clear HO345; clear HO348; clear HO354; clear HO357; clear BK330; clear BK331; clear BK332; clear BK333; clear BK351; clear BK360; clear HB; have HO345 := n0_; have HO348 := n1_; have HO354 := n2_; have HO357 := n3_; have BK330 := n4_; have BK331 := n5_; have BK332 := n6_; have BK333 := n7_; have BK351 := n8_; have BK360 := n9_; have HB := n10_; clear n0_ n1_ n2_ n3_ n4_ n5_ n6_ n7_ n8_ n9_ n10_; (try clear hb); (try clear hb2); (try clear hk); (try clear hi)) | ((with_reducible refine gate_dst (N := 26) rfl ?_); refine box_event ?hg (N := 26) ?hd (cs := #[.int .i64 0, .int .i64 0, .bool false]) (t := 29) ?hr ?_; (case hd => rfl); (case hg => rfl); (case hr => first | (go_simp; done) | (go_simp; rfl)); intro gb366 hg w60 hbox hb; have n0_ := Aside0.mk (Kd.R_below (by (with_reducible repeat (first | apply Kd.R_alloc | apply Kd.R_drewN | apply Kd.R_drew)); exact HO345.out) hb); have n1_ := Aside0.mk (Kd.R_below (by (with_reducible repeat (first | apply Kd.R_alloc | apply Kd.R_drewN | apply Kd.R_drew)); exact HO348.out) hb); have n2_ := Aside0.mk (Kd.R_below (by (with_reducible repeat (first | apply Kd.R_alloc | apply Kd.R_drewN | apply Kd.R_drew)); exact HO354.out) hb); have n3_ := Aside0.mk (Kd.R_below (by (with_reducible repeat (first | apply Kd.R_alloc | apply Kd.R_drewN | apply Kd.R_drew)); exact HO357.out) hb); have n4_ := Aside0.mk (blk_below (g := gb330) (o := .cells #[.slice A2_0 l2_0.length c2_0, .slice A2_1 l2_1.length c2_1] 33 (0, 0)) (by (with_reducible repeat (first | refine blk_drewN ?_ _ | refine blk_drew ?_ | refine blk_alloc ?_ _)); exact BK330.out) hb); have n5_ := Aside0.mk (blk_below (g := gb331) (o := .cells #[.slice A3_0 l3_0.length c3_0, .slice A3_1 l3_1.length c3_1] 33 (0, 0)) (by (with_reducible repeat (first | refine blk_drewN ?_ _ | refine blk_drew ?_ | refine blk_alloc ?_ _)); exact BK331.out) hb); have n6_ := Aside0.mk (blk_below (g := gb332) (o := .cells #[.int .i64 a4_0, .int .i64 a4_1, .bool a4_2] 29 (0, 0)) (by (with_reducible repeat (first | refine blk_drewN ?_ _ | refine blk_drew ?_ | refine blk_alloc ?_ _)); exact BK332.out) hb); have n7_ := Aside0.mk (blk_below (g := gb333) (o := .cells #[.int .i64 a5_0, .int .i64 a5_1, .bool a5_2] 29 (0, 0)) (by (with_reducible repeat (first | refine blk_drewN ?_ _ | refine blk_drew ?_ | refine blk_alloc ?_ _)); exact BK333.out) hb); have n8_ := Aside0.mk (blk_below (g := gb351) (o := .cells #[.slice Ao42 t343.length co42, .slice Ao48 t346.length co48] 33 (0, 0)) (by (with_reducible repeat (first | refine blk_drewN ?_ _ | refine blk_drew ?_ | refine blk_alloc ?_ _)); exact BK351.out) hb); have n9_ := Aside0.mk (blk_below (g := gb360) (o := .cells #[.slice Ao51 t352.length co51, .slice Ao58 t355.length co58] 33 (0, 0)) (by (with_reducible repeat (first | refine blk_drewN ?_ _ | refine blk_drew ?_ | refine blk_alloc ?_ _)); exact BK360.out) hb); have n10_ := Aside0.mk (below_step (by repeat (first | (with_reducible first | exact HB.out | apply below_alloc | apply pw_below_drewN | apply below_drew1 | refine below_set ?_ GE330.out | refine below_set ?_ GE331.out | refine below_set ?_ GE332.out | refine below_set ?_ GE333.out | refine below_set ?_ GE351.out | refine below_set ?_ GE360.out) | exact HB.out)) hb); have n11_ := Aside0.mk (hbox); have n12_ := Aside0.mk ((by rw [hg]; exact (below_size (by repeat (first | (with_reducible first | exact HB.out | apply below_alloc | apply pw_below_drewN | apply below_drew1 | refine below_set ?_ GE330.out | refine below_set ?_ GE331.out | refine below_set ?_ GE332.out | refine below_set ?_ GE333.out | refine below_set ?_ GE351.out | refine below_set ?_ GE360.out) | exact HB.out))) : w.heap.size ≤ gb366)); have n13_ := Aside0.mk ((by rw [hg]; exact (below_size (by repeat (first | (with_reducible first | exact HB.out | apply below_alloc | apply pw_below_drewN | apply below_drew1 | refine below_set ?_ GE330.out | refine below_set ?_ GE331.out | refine below_set ?_ GE332.out | refine below_set ?_ GE333.out | refine below_set ?_ GE351.out | refine below_set ?_ GE360.out) | exact HB.out))) : w.heap.size ≤ gb366)); have n14_ := Aside0.mk ((by rw [hg]; exact Nat.ne_of_lt (blk_lt (g := gb330) (o := .cells #[.slice A2_0 l2_0.length c2_0, .slice A2_1 l2_1.length c2_1] 33 (0, 0)) (by (with_reducible repeat (first | refine blk_drewN ?_ _ | refine blk_drew ?_ | refine blk_alloc ?_ _)); exact BK330.out)) : gb330 ≠ gb366)); have n15_ := Aside0.mk ((by rw [hg]; exact Nat.ne_of_gt (blk_lt (g := gb330) (o := .cells #[.slice A2_0 l2_0.length c2_0, .slice A2_1 l2_1.length c2_1] 33 (0, 0)) (by (with_reducible repeat (first | refine blk_drewN ?_ _ | refine blk_drew ?_ | refine blk_alloc ?_ _)); exact BK330.out)) : gb366 ≠ gb330)); have n16_ := Aside0.mk ((by rw [hg]; exact Nat.ne_of_lt (blk_lt (g := gb331) (o := .cells #[.slice A3_0 l3_0.length c3_0, .slice A3_1 l3_1.length c3_1] 33 (0, 0)) (by (with_reducible repeat (first | refine blk_drewN ?_ _ | refine blk_drew ?_ | refine blk_alloc ?_ _)); exact BK331.out)) : gb331 ≠ gb366)); have n17_ := Aside0.mk ((by rw [hg]; exact Nat.ne_of_gt (blk_lt (g := gb331) (o := .cells #[.slice A3_0 l3_0.length c3_0, .slice A3_1 l3_1.length c3_1] 33 (0, 0)) (by (with_reducible repeat (first | refine blk_drewN ?_ _ | refine blk_drew ?_ | refine blk_alloc ?_ _)); exact BK331.out)) : gb366 ≠ gb331)); have n18_ := Aside0.mk ((by rw [hg]; exact Nat.ne_of_lt (blk_lt (g := gb332) (o := .cells #[.int .i64 a4_0, .int .i64 a4_1, .bool a4_2] 29 (0, 0)) (by (with_reducible repeat (first | refine blk_drewN ?_ _ | refine blk_drew ?_ | refine blk_alloc ?_ _)); exact BK332.out)) : gb332 ≠ gb366)); have n19_ := Aside0.mk ((by rw [hg]; exact Nat.ne_of_gt (blk_lt (g := gb332) (o := .cells #[.int .i64 a4_0, .int .i64 a4_1, .bool a4_2] 29 (0, 0)) (by (with_reducible repeat (first | refine blk_drewN ?_ _ | refine blk_drew ?_ | refine blk_alloc ?_ _)); exact BK332.out)) : gb366 ≠ gb332)); have n20_ := Aside0.mk ((by rw [hg]; exact Nat.ne_of_lt (blk_lt (g := gb333) (o := .cells #[.int .i64 a5_0, .int .i64 a5_1, .bool a5_2] 29 (0, 0)) (by (with_reducible repeat (first | refine blk_drewN ?_ _ | refine blk_drew ?_ | refine blk_alloc ?_ _)); exact BK333.out)) : gb333 ≠ gb366)); have n21_ := Aside0.mk ((by rw [hg]; exact Nat.ne_of_gt (blk_lt (g := gb333) (o := .cells #[.int .i64 a5_0, .int .i64 a5_1, .bool a5_2] 29 (0, 0)) (by (with_reducible repeat (first | refine blk_drewN ?_ _ | refine blk_drew ?_ | refine blk_alloc ?_ _)); exact BK333.out)) : gb366 ≠ gb333)); have n22_ := Aside0.mk ((by rw [hg]; exact Nat.ne_of_lt (blk_lt (g := gb351) (o := .cells #[.slice Ao42 t343.length co42, .slice Ao48 t346.length co48] 33 (0, 0)) (by (with_reducible repeat (first | refine blk_drewN ?_ _ | refine blk_drew ?_ | refine blk_alloc ?_ _)); exact BK351.out)) : gb351 ≠ gb366)); have n23_ := Aside0.mk ((by rw [hg]; exact Nat.ne_of_gt (blk_lt (g := gb351) (o := .cells #[.slice Ao42 t343.length co42, .slice Ao48 t346.length co48] 33 (0, 0)) (by (with_reducible repeat (first | refine blk_drewN ?_ _ | refine blk_drew ?_ | refine blk_alloc ?_ _)); exact BK351.out)) : gb366 ≠ gb351)); have n24_ := Aside0.mk ((by rw [hg]; exact Nat.ne_of_lt (blk_lt (g := gb360) (o := .cells #[.slice Ao51 t352.length co51, .slice Ao58 t355.length co58] 33 (0, 0)) (by (with_reducible repeat (first | refine blk_drewN ?_ _ | refine blk_drew ?_ | refine blk_alloc ?_ _)); exact BK360.out)) : gb360 ≠ gb366)); have n25_ := Aside0.mk ((by rw [hg]; exact Nat.ne_of_gt (blk_lt (g := gb360) (o := .cells #[.slice Ao51 t352.length co51, .slice Ao58 t355.length co58] 33 (0, 0)) (by (with_reducible repeat (first | refine blk_drewN ?_ _ | refine blk_drew ?_ | refine blk_alloc ?_ _)); exact BK360.out)) : gb366 ≠ gb360)); clear HO345; clear HO348; clear HO354; clear HO357; clear BK330; clear BK331; clear BK332; clear BK333; clear BK351; clear BK360; clear HB; have HO345 := n0_; have HO348 := n1_; have HO354 := n2_; have HO357 := n3_; have BK330 := n4_; have BK331 := n5_; have BK332 := n6_; have BK333 := n7_; have BK351 := n8_; have BK360 := n9_; have HB := n10_; have BK366 := n11_; have GW366 := n12_; have GE366 := n13_; have NB330_366 := n14_; have NB366_330 := n15_; have NB331_366 := n16_; have NB366_331 := n17_; have NB332_366 := n18_; have NB366_332 := n19_; have NB333_366 := n20_; have NB366_333 := n21_; have NB351_366 := n22_; have NB366_351 := n23_; have NB360_366 := n24_; have NB366_360 := n25_; clear n0_ n1_ n2_ n3_ n4_ n5_ n6_ n7_ n8_ n9_ n10_ n11_ n12_ n13_ n14_ n15_ n16_ n17_ n18_ n19_ n20_ n21_ n22_ n23_ n24_ n25_; clear hb hbox hg; have hnb61 := NB366_330.out; have hnc61 := NB330_366.out; have hnb62 := NB366_331.out; have hnc62 := NB331_366.out; have hnb63 := NB366_332.out; have hnc63 := NB332_366.out; have hnb64 := NB366_333.out; have hnc64 := NB333_366.out; have hnb65 := NB366_351.out; have hnc65 := NB351_366.out; have hnb66 := NB366_360.out; have hnc66 := NB360_366.out; have hcz67_0 : w60.cell? ⟨gb366, 0, none⟩ = some (.int .i64 0) := (blk_cell BK366.out 0).trans rfl; have hcz67_1 : w60.cell? ⟨gb366, 1, none⟩ = some (.int .i64 0) := (blk_cell BK366.out 1).trans rfl; have hcz67_2 : w60.cell? ⟨gb366, 2, none⟩ = some (.bool false) := (blk_cell BK366.out 2).trans rfl; have hfz67_0 := blk_frozen BK366.out 0; have hfz67_1 := blk_frozen BK366.out 1; have hfz67_2 := blk_frozen BK366.out 2) | ((with_reducible refine gate_callee (f := 21) rfl ?_); refine goesL_ (some 89) rfl rfl Try.func21 (by kernel_rfl) rfl #[.slice A0 l0.length c0, .int .i64 a1] rfl (by (try simp only [List.map_toArray, List.map_cons, List.map_nil]); first | done | rfl | (simp only [List.length_drop, List.length_take]; rfl)) ?_; (with_reducible refine (avocetref04_Limits.calls kj7 _ _ l0 a1 t367 t368 t369 t370 t371 _ ?side1 ?side2 A38.out).mono ?_); (case side1 => exact Kd.C_below HR0.out (by repeat (first | (with_reducible first | exact HB.out | apply below_alloc | apply pw_below_drewN | apply below_drew1 | refine below_set ?_ GE330.out | refine below_set ?_ GE331.out | refine below_set ?_ GE332.out | refine below_set ?_ GE333.out | refine below_set ?_ GE351.out | refine below_set ?_ GE360.out | refine below_set ?_ GE366.out) | exact HB.out))); (case side2 => exact HC0.out); rintro e w68 ⟨rfl, hb⟩; refine ⟨_, rfl, ?_⟩; have n0_ := Aside0.mk (Kd.R_below (by (with_reducible repeat (first | apply Kd.R_alloc | apply Kd.R_drewN | apply Kd.R_drew)); exact (Kd.R_mono (Kd.R_far (p := ⟨gb366, 2, none⟩) (Kd.R_far (p := ⟨gb366, 1, none⟩) (Kd.R_far (p := ⟨gb366, 0, none⟩) (Kd.R_types HO345.out BK366.out (by decide)) (fun _ hk => hk.2) (.int .i64 t361)) (fun _ hk => hk.2) (.int .i64 t362)) (fun _ hk => hk.2) (.bool t363)) (fun _ h_ => h_.1))) hb); have n1_ := Aside0.mk (Kd.R_below (by (with_reducible repeat (first | apply Kd.R_alloc | apply Kd.R_drewN | apply Kd.R_drew)); exact (Kd.R_mono (Kd.R_far (p := ⟨gb366, 2, none⟩) (Kd.R_far (p := ⟨gb366, 1, none⟩) (Kd.R_far (p := ⟨gb366, 0, none⟩) (Kd.R_types HO348.out BK366.out (by decide)) (fun _ hk => hk.2) (.int .i64 t361)) (fun _ hk => hk.2) (.int .i64 t362)) (fun _ hk => hk.2) (.bool t363)) (fun _ h_ => h_.1))) hb); have n2_ := Aside0.mk (Kd.R_below (by (with_reducible repeat (first | apply Kd.R_alloc | apply Kd.R_drewN | apply Kd.R_drew)); exact (Kd.R_mono (Kd.R_far (p := ⟨gb366, 2, none⟩) (Kd.R_far (p := ⟨gb366, 1, none⟩) (Kd.R_far (p := ⟨gb366, 0, none⟩) (Kd.R_types HO354.out BK366.out (by decide)) (fun _ hk => hk.2) (.int .i64 t361)) (fun _ hk => hk.2) (.int .i64 t362)) (fun _ hk => hk.2) (.bool t363)) (fun _ h_ => h_.1))) hb); have n3_ := Aside0.mk (Kd.R_below (by (with_reducible repeat (first | apply Kd.R_alloc | apply Kd.R_drewN | apply Kd.R_drew)); exact (Kd.R_mono (Kd.R_far (p := ⟨gb366, 2, none⟩) (Kd.R_far (p := ⟨gb366, 1, none⟩) (Kd.R_far (p := ⟨gb366, 0, none⟩) (Kd.R_types HO357.out BK366.out (by decide)) (fun _ hk => hk.2) (.int .i64 t361)) (fun _ hk => hk.2) (.int .i64 t362)) (fun _ hk => hk.2) (.bool t363)) (fun _ h_ => h_.1))) hb); have n4_ := Aside0.mk (blk_below (g := gb330) (o := .cells #[.slice A2_0 l2_0.length c2_0, .slice A2_1 l2_1.length c2_1] 33 (0, 0)) (by (with_reducible repeat (first | refine blk_drewN ?_ _ | refine blk_drew ?_ | refine blk_alloc ?_ _)); refine blk_far ?_ NB330_366.out _; (with_reducible repeat (first | refine blk_drewN ?_ _ | refine blk_drew ?_ | refine blk_alloc ?_ _)); refine blk_far ?_ NB330_366.out _; (with_reducible repeat (first | refine blk_drewN ?_ _ | refine blk_drew ?_ | refine blk_alloc ?_ _)); refine blk_far ?_ NB330_366.out _; (with_reducible repeat (first | refine blk_drewN ?_ _ | refine blk_drew ?_ | refine blk_alloc ?_ _)); exact BK330.out) hb); have n5_ := Aside0.mk (blk_below (g := gb331) (o := .cells #[.slice A3_0 l3_0.length c3_0, .slice A3_1 l3_1.length c3_1] 33 (0, 0)) (by (with_reducible repeat (first | refine blk_drewN ?_ _ | refine blk_drew ?_ | refine blk_alloc ?_ _)); refine blk_far ?_ NB331_366.out _; (with_reducible repeat (first | refine blk_drewN ?_ _ | refine blk_drew ?_ | refine blk_alloc ?_ _)); refine blk_far ?_ NB331_366.out _; (with_reducible repeat (first | refine blk_drewN ?_ _ | refine blk_drew ?_ | refine blk_alloc ?_ _)); refine blk_far ?_ NB331_366.out _; (with_reducible repeat (first | refine blk_drewN ?_ _ | refine blk_drew ?_ | refine blk_alloc ?_ _)); exact BK331.out) hb); have n6_ := Aside0.mk (blk_below (g := gb332) (o := .cells #[.int .i64 a4_0, .int .i64 a4_1, .bool a4_2] 29 (0, 0)) (by (with_reducible repeat (first | refine blk_drewN ?_ _ | refine blk_drew ?_ | refine blk_alloc ?_ _)); refine blk_far ?_ NB332_366.out _; (with_reducible repeat (first | refine blk_drewN ?_ _ | refine blk_drew ?_ | refine blk_alloc ?_ _)); refine blk_far ?_ NB332_366.out _; (with_reducible repeat (first | refine blk_drewN ?_ _ | refine blk_drew ?_ | refine blk_alloc ?_ _)); refine blk_far ?_ NB332_366.out _; (with_reducible repeat (first | refine blk_drewN ?_ _ | refine blk_drew ?_ | refine blk_alloc ?_ _)); exact BK332.out) hb); have n7_ := Aside0.mk (blk_below (g := gb333) (o := .cells #[.int .i64 a5_0, .int .i64 a5_1, .bool a5_2] 29 (0, 0)) (by (with_reducible repeat (first | refine blk_drewN ?_ _ | refine blk_drew ?_ | refine blk_alloc ?_ _)); refine blk_far ?_ NB333_366.out _; (with_reducible repeat (first | refine blk_drewN ?_ _ | refine blk_drew ?_ | refine blk_alloc ?_ _)); refine blk_far ?_ NB333_366.out _; (with_reducible repeat (first | refine blk_drewN ?_ _ | refine blk_drew ?_ | refine blk_alloc ?_ _)); refine blk_far ?_ NB333_366.out _; (with_reducible repeat (first | refine blk_drewN ?_ _ | refine blk_drew ?_ | refine blk_alloc ?_ _)); exact BK333.out) hb); have n8_ := Aside0.mk (blk_below (g := gb351) (o := .cells #[.slice Ao42 t343.length co42, .slice Ao48 t346.length co48] 33 (0, 0)) (by (with_reducible repeat (first | refine blk_drewN ?_ _ | refine blk_drew ?_ | refine blk_alloc ?_ _)); refine blk_far ?_ NB351_366.out _; (with_reducible repeat (first | refine blk_drewN ?_ _ | refine blk_drew ?_ | refine blk_alloc ?_ _)); refine blk_far ?_ NB351_366.out _; (with_reducible repeat (first | refine blk_drewN ?_ _ | refine blk_drew ?_ | refine blk_alloc ?_ _)); refine blk_far ?_ NB351_366.out _; (with_reducible repeat (first | refine blk_drewN ?_ _ | refine blk_drew ?_ | refine blk_alloc ?_ _)); exact BK351.out) hb); have n9_ := Aside0.mk (blk_below (g := gb360) (o := .cells #[.slice Ao51 t352.length co51, .slice Ao58 t355.length co58] 33 (0, 0)) (by (with_reducible repeat (first | refine blk_drewN ?_ _ | refine blk_drew ?_ | refine blk_alloc ?_ _)); refine blk_far ?_ NB360_366.out _; (with_reducible repeat (first | refine blk_drewN ?_ _ | refine blk_drew ?_ | refine blk_alloc ?_ _)); refine blk_far ?_ NB360_366.out _; (with_reducible repeat (first | refine blk_drewN ?_ _ | refine blk_drew ?_ | refine blk_alloc ?_ _)); refine blk_far ?_ NB360_366.out _; (with_reducible repeat (first | refine blk_drewN ?_ _ | refine blk_drew ?_ | refine blk_alloc ?_ _)); exact BK360.out) hb); have n10_ := Aside0.mk (blk_below (g := gb366) (o := .cells #[.int .i64 t361, .int .i64 t362, .bool t363] 29 (0, 0)) (by (with_reducible repeat (first | refine blk_drewN ?_ _ | refine blk_drew ?_ | refine blk_alloc ?_ _)); refine blk_put (cs := #[.int .i64 t361, .int .i64 t362, .bool false]) ?_ 2 _ rfl; (with_reducible repeat (first | refine blk_drewN ?_ _ | refine blk_drew ?_ | refine blk_alloc ?_ _)); refine blk_put (cs := #[.int .i64 t361, .int .i64 0, .bool false]) ?_ 1 _ rfl; (with_reducible repeat (first | refine blk_drewN ?_ _ | refine blk_drew ?_ | refine blk_alloc ?_ _)); refine blk_put (cs := #[.int .i64 0, .int .i64 0, .bool false]) ?_ 0 _ rfl; (with_reducible repeat (first | refine blk_drewN ?_ _ | refine blk_drew ?_ | refine blk_alloc ?_ _)); exact BK366.out) hb); have n11_ := Aside0.mk (below_step (by repeat (first | (with_reducible first | exact HB.out | apply below_alloc | apply pw_below_drewN | apply below_drew1 | refine below_set ?_ GE330.out | refine below_set ?_ GE331.out | refine below_set ?_ GE332.out | refine below_set ?_ GE333.out | refine below_set ?_ GE351.out | refine below_set ?_ GE360.out | refine below_set ?_ GE366.out) | exact HB.out)) hb); clear HO345; clear HO348; clear HO354; clear HO357; clear BK330; clear BK331; clear BK332; clear BK333; clear BK351; clear BK360; clear BK366; clear HB; have HO345 := n0_; have HO348 := n1_; have HO354 := n2_; have HO357 := n3_; have BK330 := n4_; have BK331 := n5_; have BK332 := n6_; have BK333 := n7_; have BK351 := n8_; have BK360 := n9_; have BK366 := n10_; have HB := n11_; clear n0_ n1_ n2_ n3_ n4_ n5_ n6_ n7_ n8_ n9_ n10_ n11_; (try clear hb); (try clear hb2); (try clear hk); (try clear hi)) | ((with_reducible refine gate_dst (N := 29) rfl ?_); refine box_event ?hg (N := 29) ?hd (cs := #[.int .i64 0, .int .i64 0, .bool false]) (t := 29) ?hr ?_; (case hd => rfl); (case hg => rfl); (case hr => first | (go_simp; done) | (go_simp; rfl)); intro gb372 hg w69 hbox hb; have n0_ := Aside0.mk (Kd.R_below (by (with_reducible repeat (first | apply Kd.R_alloc | apply Kd.R_drewN | apply Kd.R_drew)); exact HO345.out) hb); have n1_ := Aside0.mk (Kd.R_below (by (with_reducible repeat (first | apply Kd.R_alloc | apply Kd.R_drewN | apply Kd.R_drew)); exact HO348.out) hb); have n2_ := Aside0.mk (Kd.R_below (by (with_reducible repeat (first | apply Kd.R_alloc | apply Kd.R_drewN | apply Kd.R_drew)); exact HO354.out) hb); have n3_ := Aside0.mk (Kd.R_below (by (with_reducible repeat (first | apply Kd.R_alloc | apply Kd.R_drewN | apply Kd.R_drew)); exact HO357.out) hb); have n4_ := Aside0.mk (blk_below (g := gb330) (o := .cells #[.slice A2_0 l2_0.length c2_0, .slice A2_1 l2_1.length c2_1] 33 (0, 0)) (by (with_reducible repeat (first | refine blk_drewN ?_ _ | refine blk_drew ?_ | refine blk_alloc ?_ _)); exact BK330.out) hb); have n5_ := Aside0.mk (blk_below (g := gb331) (o := .cells #[.slice A3_0 l3_0.length c3_0, .slice A3_1 l3_1.length c3_1] 33 (0, 0)) (by (with_reducible repeat (first | refine blk_drewN ?_ _ | refine blk_drew ?_ | refine blk_alloc ?_ _)); exact BK331.out) hb); have n6_ := Aside0.mk (blk_below (g := gb332) (o := .cells #[.int .i64 a4_0, .int .i64 a4_1, .bool a4_2] 29 (0, 0)) (by (with_reducible repeat (first | refine blk_drewN ?_ _ | refine blk_drew ?_ | refine blk_alloc ?_ _)); exact BK332.out) hb); have n7_ := Aside0.mk (blk_below (g := gb333) (o := .cells #[.int .i64 a5_0, .int .i64 a5_1, .bool a5_2] 29 (0, 0)) (by (with_reducible repeat (first | refine blk_drewN ?_ _ | refine blk_drew ?_ | refine blk_alloc ?_ _)); exact BK333.out) hb); have n8_ := Aside0.mk (blk_below (g := gb351) (o := .cells #[.slice Ao42 t343.length co42, .slice Ao48 t346.length co48] 33 (0, 0)) (by (with_reducible repeat (first | refine blk_drewN ?_ _ | refine blk_drew ?_ | refine blk_alloc ?_ _)); exact BK351.out) hb); have n9_ := Aside0.mk (blk_below (g := gb360) (o := .cells #[.slice Ao51 t352.length co51, .slice Ao58 t355.length co58] 33 (0, 0)) (by (with_reducible repeat (first | refine blk_drewN ?_ _ | refine blk_drew ?_ | refine blk_alloc ?_ _)); exact BK360.out) hb); have n10_ := Aside0.mk (blk_below (g := gb366) (o := .cells #[.int .i64 t361, .int .i64 t362, .bool t363] 29 (0, 0)) (by (with_reducible repeat (first | refine blk_drewN ?_ _ | refine blk_drew ?_ | refine blk_alloc ?_ _)); exact BK366.out) hb); have n11_ := Aside0.mk (below_step (by repeat (first | (with_reducible first | exact HB.out | apply below_alloc | apply pw_below_drewN | apply below_drew1 | refine below_set ?_ GE330.out | refine below_set ?_ GE331.out | refine below_set ?_ GE332.out | refine below_set ?_ GE333.out | refine below_set ?_ GE351.out | refine below_set ?_ GE360.out | refine below_set ?_ GE366.out) | exact HB.out)) hb); have n12_ := Aside0.mk (hbox); have n13_ := Aside0.mk ((by rw [hg]; exact (below_size (by repeat (first | (with_reducible first | exact HB.out | apply below_alloc | apply pw_below_drewN | apply below_drew1 | refine below_set ?_ GE330.out | refine below_set ?_ GE331.out | refine below_set ?_ GE332.out | refine below_set ?_ GE333.out | refine below_set ?_ GE351.out | refine below_set ?_ GE360.out | refine below_set ?_ GE366.out) | exact HB.out))) : w.heap.size ≤ gb372)); have n14_ := Aside0.mk ((by rw [hg]; exact (below_size (by repeat (first | (with_reducible first | exact HB.out | apply below_alloc | apply pw_below_drewN | apply below_drew1 | refine below_set ?_ GE330.out | refine below_set ?_ GE331.out | refine below_set ?_ GE332.out | refine below_set ?_ GE333.out | refine below_set ?_ GE351.out | refine below_set ?_ GE360.out | refine below_set ?_ GE366.out) | exact HB.out))) : w.heap.size ≤ gb372)); have n15_ := Aside0.mk ((by rw [hg]; exact Nat.ne_of_lt (blk_lt (g := gb330) (o := .cells #[.slice A2_0 l2_0.length c2_0, .slice A2_1 l2_1.length c2_1] 33 (0, 0)) (by (with_reducible repeat (first | refine blk_drewN ?_ _ | refine blk_drew ?_ | refine blk_alloc ?_ _)); exact BK330.out)) : gb330 ≠ gb372)); have n16_ := Aside0.mk ((by rw [hg]; exact Nat.ne_of_gt (blk_lt (g := gb330) (o := .cells #[.slice A2_0 l2_0.length c2_0, .slice A2_1 l2_1.length c2_1] 33 (0, 0)) (by (with_reducible repeat (first | refine blk_drewN ?_ _ | refine blk_drew ?_ | refine blk_alloc ?_ _)); exact BK330.out)) : gb372 ≠ gb330)); have n17_ := Aside0.mk ((by rw [hg]; exact Nat.ne_of_lt (blk_lt (g := gb331) (o := .cells #[.slice A3_0 l3_0.length c3_0, .slice A3_1 l3_1.length c3_1] 33 (0, 0)) (by (with_reducible repeat (first | refine blk_drewN ?_ _ | refine blk_drew ?_ | refine blk_alloc ?_ _)); exact BK331.out)) : gb331 ≠ gb372)); have n18_ := Aside0.mk ((by rw [hg]; exact Nat.ne_of_gt (blk_lt (g := gb331) (o := .cells #[.slice A3_0 l3_0.length c3_0, .slice A3_1 l3_1.length c3_1] 33 (0, 0)) (by (with_reducible repeat (first | refine blk_drewN ?_ _ | refine blk_drew ?_ | refine blk_alloc ?_ _)); exact BK331.out)) : gb372 ≠ gb331)); have n19_ := Aside0.mk ((by rw [hg]; exact Nat.ne_of_lt (blk_lt (g := gb332) (o := .cells #[.int .i64 a4_0, .int .i64 a4_1, .bool a4_2] 29 (0, 0)) (by (with_reducible repeat (first | refine blk_drewN ?_ _ | refine blk_drew ?_ | refine blk_alloc ?_ _)); exact BK332.out)) : gb332 ≠ gb372)); have n20_ := Aside0.mk ((by rw [hg]; exact Nat.ne_of_gt (blk_lt (g := gb332) (o := .cells #[.int .i64 a4_0, .int .i64 a4_1, .bool a4_2] 29 (0, 0)) (by (with_reducible repeat (first | refine blk_drewN ?_ _ | refine blk_drew ?_ | refine blk_alloc ?_ _)); exact BK332.out)) : gb372 ≠ gb332)); have n21_ := Aside0.mk ((by rw [hg]; exact Nat.ne_of_lt (blk_lt (g := gb333) (o := .cells #[.int .i64 a5_0, .int .i64 a5_1, .bool a5_2] 29 (0, 0)) (by (with_reducible repeat (first | refine blk_drewN ?_ _ | refine blk_drew ?_ | refine blk_alloc ?_ _)); exact BK333.out)) : gb333 ≠ gb372)); have n22_ := Aside0.mk ((by rw [hg]; exact Nat.ne_of_gt (blk_lt (g := gb333) (o := .cells #[.int .i64 a5_0, .int .i64 a5_1, .bool a5_2] 29 (0, 0)) (by (with_reducible repeat (first | refine blk_drewN ?_ _ | refine blk_drew ?_ | refine blk_alloc ?_ _)); exact BK333.out)) : gb372 ≠ gb333)); have n23_ := Aside0.mk ((by rw [hg]; exact Nat.ne_of_lt (blk_lt (g := gb351) (o := .cells #[.slice Ao42 t343.length co42, .slice Ao48 t346.length co48] 33 (0, 0)) (by (with_reducible repeat (first | refine blk_drewN ?_ _ | refine blk_drew ?_ | refine blk_alloc ?_ _)); exact BK351.out)) : gb351 ≠ gb372)); have n24_ := Aside0.mk ((by rw [hg]; exact Nat.ne_of_gt (blk_lt (g := gb351) (o := .cells #[.slice Ao42 t343.length co42, .slice Ao48 t346.length co48] 33 (0, 0)) (by (with_reducible repeat (first | refine blk_drewN ?_ _ | refine blk_drew ?_ | refine blk_alloc ?_ _)); exact BK351.out)) : gb372 ≠ gb351)); have n25_ := Aside0.mk ((by rw [hg]; exact Nat.ne_of_lt (blk_lt (g := gb360) (o := .cells #[.slice Ao51 t352.length co51, .slice Ao58 t355.length co58] 33 (0, 0)) (by (with_reducible repeat (first | refine blk_drewN ?_ _ | refine blk_drew ?_ | refine blk_alloc ?_ _)); exact BK360.out)) : gb360 ≠ gb372)); have n26_ := Aside0.mk ((by rw [hg]; exact Nat.ne_of_gt (blk_lt (g := gb360) (o := .cells #[.slice Ao51 t352.length co51, .slice Ao58 t355.length co58] 33 (0, 0)) (by (with_reducible repeat (first | refine blk_drewN ?_ _ | refine blk_drew ?_ | refine blk_alloc ?_ _)); exact BK360.out)) : gb372 ≠ gb360)); have n27_ := Aside0.mk ((by rw [hg]; exact Nat.ne_of_lt (blk_lt (g := gb366) (o := .cells #[.int .i64 t361, .int .i64 t362, .bool t363] 29 (0, 0)) (by (with_reducible repeat (first | refine blk_drewN ?_ _ | refine blk_drew ?_ | refine blk_alloc ?_ _)); exact BK366.out)) : gb366 ≠ gb372)); have n28_ := Aside0.mk ((by rw [hg]; exact Nat.ne_of_gt (blk_lt (g := gb366) (o := .cells #[.int .i64 t361, .int .i64 t362, .bool t363] 29 (0, 0)) (by (with_reducible repeat (first | refine blk_drewN ?_ _ | refine blk_drew ?_ | refine blk_alloc ?_ _)); exact BK366.out)) : gb372 ≠ gb366)); clear HO345; clear HO348; clear HO354; clear HO357; clear BK330; clear BK331; clear BK332; clear BK333; clear BK351; clear BK360; clear BK366; clear HB; have HO345 := n0_; have HO348 := n1_; have HO354 := n2_; have HO357 := n3_; have BK330 := n4_; have BK331 := n5_; have BK332 := n6_; have BK333 := n7_; have BK351 := n8_; have BK360 := n9_; have BK366 := n10_; have HB := n11_; have BK372 := n12_; have GW372 := n13_; have GE372 := n14_; have NB330_372 := n15_; have NB372_330 := n16_; have NB331_372 := n17_; have NB372_331 := n18_; have NB332_372 := n19_; have NB372_332 := n20_; have NB333_372 := n21_; have NB372_333 := n22_; have NB351_372 := n23_; have NB372_351 := n24_; have NB360_372 := n25_; have NB372_360 := n26_; have NB366_372 := n27_; have NB372_366 := n28_; clear n0_ n1_ n2_ n3_ n4_ n5_ n6_ n7_ n8_ n9_ n10_ n11_ n12_ n13_ n14_ n15_ n16_ n17_ n18_ n19_ n20_ n21_ n22_ n23_ n24_ n25_ n26_ n27_ n28_; clear hb hbox hg; have hnb70 := NB372_330.out; have hnc70 := NB330_372.out; have hnb71 := NB372_331.out; have hnc71 := NB331_372.out; have hnb72 := NB372_332.out; have hnc72 := NB332_372.out; have hnb73 := NB372_333.out; have hnc73 := NB333_372.out; have hnb74 := NB372_351.out; have hnc74 := NB351_372.out; have hnb75 := NB372_360.out; have hnc75 := NB360_372.out; have hnb76 := NB372_366.out; have hnc76 := NB366_372.out; have hcz77_0 : w69.cell? ⟨gb372, 0, none⟩ = some (.int .i64 0) := (blk_cell BK372.out 0).trans rfl; have hcz77_1 : w69.cell? ⟨gb372, 1, none⟩ = some (.int .i64 0) := (blk_cell BK372.out 1).trans rfl; have hcz77_2 : w69.cell? ⟨gb372, 2, none⟩ = some (.bool false) := (blk_cell BK372.out 2).trans rfl; have hfz77_0 := blk_frozen BK372.out 0; have hfz77_1 := blk_frozen BK372.out 1; have hfz77_2 := blk_frozen BK372.out 2))
        (try simp only [Act.put, List.setIfInBounds_toArray, List.set_cons_zero, List.set_cons_succ])
        go_cut [136] (fun v136 wc => ∃ (kq : Nat) (x136_38 : Bool), v136 = .bool x136_38 ∧ Aside0 (avocetlaw04_TypesIs.j1 kq l0 t334 x136_38 l2_0 l2_1 l3_0 l3_1 a4_0 a4_1 a4_2 a5_0 a5_1 a5_2 = some r) ∧ Aside0 (kq ≤ kj7) ∧ Aside0 (Kd.R (Kd.int .u8) 5 wc w.heap.size (fun k_ => some k_ ≠ ((.slice Ao48 t346.length co48) : Value).ownBlock ∧ some k_ ≠ ((.slice Ao51 t352.length co51) : Value).ownBlock ∧ some k_ ≠ ((.slice Ao58 t355.length co58) : Value).ownBlock) (.slice Ao42 t343.length co42) t343) ∧ Aside0 (Kd.R (Kd.int .u8) 5 wc w.heap.size (fun k_ => some k_ ≠ ((.slice Ao42 t343.length co42) : Value).ownBlock ∧ some k_ ≠ ((.slice Ao51 t352.length co51) : Value).ownBlock ∧ some k_ ≠ ((.slice Ao58 t355.length co58) : Value).ownBlock) (.slice Ao48 t346.length co48) t346) ∧ Aside0 (Kd.R (Kd.int .u8) 5 wc w.heap.size (fun k_ => some k_ ≠ ((.slice Ao42 t343.length co42) : Value).ownBlock ∧ some k_ ≠ ((.slice Ao48 t346.length co48) : Value).ownBlock ∧ some k_ ≠ ((.slice Ao58 t355.length co58) : Value).ownBlock) (.slice Ao51 t352.length co51) t352) ∧ Aside0 (Kd.R (Kd.int .u8) 5 wc w.heap.size (fun k_ => some k_ ≠ ((.slice Ao42 t343.length co42) : Value).ownBlock ∧ some k_ ≠ ((.slice Ao48 t346.length co48) : Value).ownBlock ∧ some k_ ≠ ((.slice Ao51 t352.length co51) : Value).ownBlock) (.slice Ao58 t355.length co58) t355) ∧ Aside0 (wc.heap[gb330]? = some (.cells #[(.slice A2_0 l2_0.length c2_0), (.slice A2_1 l2_1.length c2_1)] 33 (0, 0))) ∧ Aside0 (wc.heap[gb331]? = some (.cells #[(.slice A3_0 l3_0.length c3_0), (.slice A3_1 l3_1.length c3_1)] 33 (0, 0))) ∧ Aside0 (wc.heap[gb332]? = some (.cells #[.int .i64 a4_0, .int .i64 a4_1, .bool a4_2] 29 (0, 0))) ∧ Aside0 (wc.heap[gb333]? = some (.cells #[.int .i64 a5_0, .int .i64 a5_1, .bool a5_2] 29 (0, 0))) ∧ Aside0 (wc.heap[gb351]? = some (.cells #[(.slice Ao42 t343.length co42), (.slice Ao48 t346.length co48)] 33 (0, 0))) ∧ Aside0 (wc.heap[gb360]? = some (.cells #[(.slice Ao51 t352.length co51), (.slice Ao58 t355.length co58)] 33 (0, 0))) ∧ Aside0 (wc.heap[gb366]? = some (.cells #[.int .i64 t361, .int .i64 t362, .bool t363] 29 (0, 0))) ∧ Aside0 (wc.heap[gb372]? = some (.cells #[.int .i64 t367, .int .i64 t368, .bool t369] 29 (0, 0))) ∧ Aside0 (Below w.heap.size w wc))
        case first =>
          have H := HC39.out
          clear HC39
          by_cases c78 : t337 = t340
          · rw [if_pos c78] at H
            have c78b0 : (t337 == t340) = true := beq_iff_eq.mpr c78
            have c78b1 : (t337 != t340) = false := bne_eq_false_iff_eq.mpr c78
            clear c78
            (first | rw [c78b0] | (simp only [i64_w, i32_w]; rw [c78b0]) | skip)
            by_cases c79 : t338 = t341
            · rw [if_pos c79] at H
              have c79b0 : (t338 == t341) = true := beq_iff_eq.mpr c79
              have c79b1 : (t338 != t341) = false := bne_eq_false_iff_eq.mpr c79
              clear c79
              by_cases c80 : t339 = t342
              · rw [if_pos c80] at H
                have c80b0 : (t339 == t342) = true := beq_iff_eq.mpr c80
                have c80b1 : (t339 != t342) = false := bne_eq_false_iff_eq.mpr c80
                clear c80
                replace H := Option.bind_eq_some_iff.mp H
                obtain ⟨t373, A810, H⟩ := H
                replace H : (if t373 = true then (if t349 = t358 then (if t350 = t359 then (if (!(t361 == t367) || (!(t362 == t368) || (!(t363 == t369)))) = true then (avocetlaw04_TypesIs.j1 kj7 l0 t334 true l2_0 l2_1 l3_0 l3_1 a4_0 a4_1 a4_2 a5_0 a5_1 a5_2) else (if t364 = t370 then (avocetlaw04_TypesIs.j1 kj7 l0 t334 (t365 != t371) l2_0 l2_1 l3_0 l3_1 a4_0 a4_1 a4_2 a5_0 a5_1 a5_2) else (avocetlaw04_TypesIs.j1 kj7 l0 t334 true l2_0 l2_1 l3_0 l3_1 a4_0 a4_1 a4_2 a5_0 a5_1 a5_2))) else (avocetlaw04_TypesIs.j1 kj7 l0 t334 true l2_0 l2_1 l3_0 l3_1 a4_0 a4_1 a4_2 a5_0 a5_1 a5_2)) else (avocetlaw04_TypesIs.j1 kj7 l0 t334 true l2_0 l2_1 l3_0 l3_1 a4_0 a4_1 a4_2 a5_0 a5_1 a5_2)) else (avocetlaw04_TypesIs.j1 kj7 l0 t334 true l2_0 l2_1 l3_0 l3_1 a4_0 a4_1 a4_2 a5_0 a5_1 a5_2)) = some r := H
                have A81 := Aside0.mk A810
                clear A810
                by_cases c82 : t373 = true
                · subst c82
                  have H1 : (if t349 = t358 then (if t350 = t359 then (if (!(t361 == t367) || (!(t362 == t368) || (!(t363 == t369)))) = true then (avocetlaw04_TypesIs.j1 kj7 l0 t334 true l2_0 l2_1 l3_0 l3_1 a4_0 a4_1 a4_2 a5_0 a5_1 a5_2) else (if t364 = t370 then (avocetlaw04_TypesIs.j1 kj7 l0 t334 (t365 != t371) l2_0 l2_1 l3_0 l3_1 a4_0 a4_1 a4_2 a5_0 a5_1 a5_2) else (avocetlaw04_TypesIs.j1 kj7 l0 t334 true l2_0 l2_1 l3_0 l3_1 a4_0 a4_1 a4_2 a5_0 a5_1 a5_2))) else (avocetlaw04_TypesIs.j1 kj7 l0 t334 true l2_0 l2_1 l3_0 l3_1 a4_0 a4_1 a4_2 a5_0 a5_1 a5_2)) else (avocetlaw04_TypesIs.j1 kj7 l0 t334 true l2_0 l2_1 l3_0 l3_1 a4_0 a4_1 a4_2 a5_0 a5_1 a5_2)) = some r := by rw [if_pos rfl] at H; exact H
                  clear H
                  have H := H1
                  clear H1
                  by_cases c83 : t349 = t358
                  · rw [if_pos c83] at H
                    have c83b0 : (t349 == t358) = true := beq_iff_eq.mpr c83
                    have c83b1 : (t349 != t358) = false := bne_eq_false_iff_eq.mpr c83
                    clear c83
                    by_cases c84 : t350 = t359
                    · rw [if_pos c84] at H
                      have c84b0 : (t350 == t359) = true := beq_iff_eq.mpr c84
                      have c84b1 : (t350 != t359) = false := bne_eq_false_iff_eq.mpr c84
                      clear c84
                      by_cases c85 : (!(t361 == t367) || (!(t362 == t368) || (!(t363 == t369)))) = true
                      · rw [if_pos c85] at H
                        have c85b0 : (!(t361 == t367) || (!(t362 == t368) || (!(t363 == t369)))) = true := c85
                        clear c85
                        exfalso; rw [HRT_.out] at H; revert H; cases kj7 <;> simp [avocetlaw04_TypesIs.j1]
                      · rw [if_neg c85] at H
                        have c85b0 : (!(t361 == t367) || (!(t362 == t368) || (!(t363 == t369)))) = false := by simpa using c85
                        clear c85
                        by_cases c86 : t364 = t370
                        · rw [if_pos c86] at H
                          have c86b0 : (t364 == t370) = true := beq_iff_eq.mpr c86
                          have c86b1 : (t364 != t370) = false := bne_eq_false_iff_eq.mpr c86
                          clear c86
                          have H' := Aside0.mk H
                          clear H
                          have hnb87 := NB351_330.out
                          have hnc87 := NB330_351.out
                          have hnb88 := NB351_331.out
                          have hnc88 := NB331_351.out
                          have hnb89 := NB351_332.out
                          have hnc89 := NB332_351.out
                          have hnb90 := NB351_333.out
                          have hnc90 := NB333_351.out
                          have hnb91 := NB351_360.out
                          have hnc91 := NB360_351.out
                          have hnb92 := NB351_366.out
                          have hnc92 := NB366_351.out
                          have hnb93 := NB351_372.out
                          have hnc93 := NB372_351.out
                          have hcz94_0 : w69.cell? ⟨gb351, 0, none⟩ = some (.slice Ao42 t343.length co42) := (blk_cell BK351.out 0).trans rfl
                          have hcz94_1 : w69.cell? ⟨gb351, 1, none⟩ = some (.slice Ao48 t346.length co48) := (blk_cell BK351.out 1).trans rfl
                          have hfz94_0 := blk_frozen BK351.out 0
                          have hfz94_1 := blk_frozen BK351.out 1
                          have hnb95 := NB360_330.out
                          have hnc95 := NB330_360.out
                          have hnb96 := NB360_331.out
                          have hnc96 := NB331_360.out
                          have hnb97 := NB360_332.out
                          have hnc97 := NB332_360.out
                          have hnb98 := NB360_333.out
                          have hnc98 := NB333_360.out
                          have hnb99 := NB360_366.out
                          have hnc99 := NB366_360.out
                          have hnb100 := NB360_372.out
                          have hnc100 := NB372_360.out
                          have hcz101_0 : w69.cell? ⟨gb360, 0, none⟩ = some (.slice Ao51 t352.length co51) := (blk_cell BK360.out 0).trans rfl
                          have hcz101_1 : w69.cell? ⟨gb360, 1, none⟩ = some (.slice Ao58 t355.length co58) := (blk_cell BK360.out 1).trans rfl
                          have hfz101_0 := blk_frozen BK360.out 0
                          have hfz101_1 := blk_frozen BK360.out 1
                          go_wp2_with (first | (go_at_call 22; (with_reducible refine (avocetref04_Same.calls _ _ t343 _ _ t346 _ _ t352 _ _ t355 true _ ?side1 ?side2 ?side3 ?side4 ?side5 ?side6 ?side7 ?side8 A81.out).mono ?_); (case side1 => refine (Kd.R_reads' (e := 5) (base := w.heap.size) (ok := fun k_ => ((some k_ ≠ (.slice Ao48 t346.length co48 : Value).ownBlock ∧ some k_ ≠ (.slice Ao51 t352.length co51 : Value).ownBlock) ∧ some k_ ≠ (.slice Ao58 t355.length co58 : Value).ownBlock)) (n := t343.length) (c := co42) ?_).2.2; exact (by (with_reducible repeat (first | apply Kd.R_alloc | apply Kd.R_drewN | apply Kd.R_drew)); exact (Kd.R_mono (Kd.R_far (p := ⟨gb372, 2, none⟩) (Kd.R_far (p := ⟨gb372, 1, none⟩) (Kd.R_far (p := ⟨gb372, 0, none⟩) (Kd.R_types HO345.out BK372.out (by decide)) (fun _ hk => hk.2) (.int .i64 t367)) (fun _ hk => hk.2) (.int .i64 t368)) (fun _ hk => hk.2) (.bool t369)) (fun _ h_ => h_.1)))); (case side2 => exact (Kd.R_reads' HO345.out).2.1); (case side3 => refine (Kd.R_reads' (e := 5) (base := w.heap.size) (ok := fun k_ => ((some k_ ≠ (.slice Ao42 t343.length co42 : Value).ownBlock ∧ some k_ ≠ (.slice Ao51 t352.length co51 : Value).ownBlock) ∧ some k_ ≠ (.slice Ao58 t355.length co58 : Value).ownBlock)) (n := t346.length) (c := co48) ?_).2.2; exact (by (with_reducible repeat (first | apply Kd.R_alloc | apply Kd.R_drewN | apply Kd.R_drew)); exact (Kd.R_mono (Kd.R_far (p := ⟨gb372, 2, none⟩) (Kd.R_far (p := ⟨gb372, 1, none⟩) (Kd.R_far (p := ⟨gb372, 0, none⟩) (Kd.R_types HO348.out BK372.out (by decide)) (fun _ hk => hk.2) (.int .i64 t367)) (fun _ hk => hk.2) (.int .i64 t368)) (fun _ hk => hk.2) (.bool t369)) (fun _ h_ => h_.1)))); (case side4 => exact (Kd.R_reads' HO348.out).2.1); (case side5 => refine (Kd.R_reads' (e := 5) (base := w.heap.size) (ok := fun k_ => ((some k_ ≠ (.slice Ao58 t355.length co58 : Value).ownBlock ∧ some k_ ≠ (.slice Ao42 t343.length co42 : Value).ownBlock) ∧ some k_ ≠ (.slice Ao48 t346.length co48 : Value).ownBlock)) (n := t352.length) (c := co51) ?_).2.2; exact (by (with_reducible repeat (first | apply Kd.R_alloc | apply Kd.R_drewN | apply Kd.R_drew)); exact (Kd.R_mono (Kd.R_far (p := ⟨gb372, 2, none⟩) (Kd.R_far (p := ⟨gb372, 1, none⟩) (Kd.R_far (p := ⟨gb372, 0, none⟩) (Kd.R_types HO354.out BK372.out (by decide)) (fun _ hk => hk.2) (.int .i64 t367)) (fun _ hk => hk.2) (.int .i64 t368)) (fun _ hk => hk.2) (.bool t369)) (fun _ h_ => h_.1)))); (case side6 => exact (Kd.R_reads' HO354.out).2.1); (case side7 => refine (Kd.R_reads' (e := 5) (base := w.heap.size) (ok := fun k_ => ((some k_ ≠ (.slice Ao51 t352.length co51 : Value).ownBlock ∧ some k_ ≠ (.slice Ao42 t343.length co42 : Value).ownBlock) ∧ some k_ ≠ (.slice Ao48 t346.length co48 : Value).ownBlock)) (n := t355.length) (c := co58) ?_).2.2; exact (by (with_reducible repeat (first | apply Kd.R_alloc | apply Kd.R_drewN | apply Kd.R_drew)); exact (Kd.R_mono (Kd.R_far (p := ⟨gb372, 2, none⟩) (Kd.R_far (p := ⟨gb372, 1, none⟩) (Kd.R_far (p := ⟨gb372, 0, none⟩) (Kd.R_types HO357.out BK372.out (by decide)) (fun _ hk => hk.2) (.int .i64 t367)) (fun _ hk => hk.2) (.int .i64 t368)) (fun _ hk => hk.2) (.bool t369)) (fun _ h_ => h_.1)))); (case side8 => exact (Kd.R_reads' HO357.out).2.1); rintro e w102 ⟨rfl, hb⟩; have n0_ := Aside0.mk (Kd.R_below (by (with_reducible repeat (first | apply Kd.R_alloc | apply Kd.R_drewN | apply Kd.R_drew)); exact (Kd.R_mono (Kd.R_far (p := ⟨gb372, 2, none⟩) (Kd.R_far (p := ⟨gb372, 1, none⟩) (Kd.R_far (p := ⟨gb372, 0, none⟩) (Kd.R_types HO345.out BK372.out (by decide)) (fun _ hk => hk.2) (.int .i64 t367)) (fun _ hk => hk.2) (.int .i64 t368)) (fun _ hk => hk.2) (.bool t369)) (fun _ h_ => h_.1))) hb); have n1_ := Aside0.mk (Kd.R_below (by (with_reducible repeat (first | apply Kd.R_alloc | apply Kd.R_drewN | apply Kd.R_drew)); exact (Kd.R_mono (Kd.R_far (p := ⟨gb372, 2, none⟩) (Kd.R_far (p := ⟨gb372, 1, none⟩) (Kd.R_far (p := ⟨gb372, 0, none⟩) (Kd.R_types HO348.out BK372.out (by decide)) (fun _ hk => hk.2) (.int .i64 t367)) (fun _ hk => hk.2) (.int .i64 t368)) (fun _ hk => hk.2) (.bool t369)) (fun _ h_ => h_.1))) hb); have n2_ := Aside0.mk (Kd.R_below (by (with_reducible repeat (first | apply Kd.R_alloc | apply Kd.R_drewN | apply Kd.R_drew)); exact (Kd.R_mono (Kd.R_far (p := ⟨gb372, 2, none⟩) (Kd.R_far (p := ⟨gb372, 1, none⟩) (Kd.R_far (p := ⟨gb372, 0, none⟩) (Kd.R_types HO354.out BK372.out (by decide)) (fun _ hk => hk.2) (.int .i64 t367)) (fun _ hk => hk.2) (.int .i64 t368)) (fun _ hk => hk.2) (.bool t369)) (fun _ h_ => h_.1))) hb); have n3_ := Aside0.mk (Kd.R_below (by (with_reducible repeat (first | apply Kd.R_alloc | apply Kd.R_drewN | apply Kd.R_drew)); exact (Kd.R_mono (Kd.R_far (p := ⟨gb372, 2, none⟩) (Kd.R_far (p := ⟨gb372, 1, none⟩) (Kd.R_far (p := ⟨gb372, 0, none⟩) (Kd.R_types HO357.out BK372.out (by decide)) (fun _ hk => hk.2) (.int .i64 t367)) (fun _ hk => hk.2) (.int .i64 t368)) (fun _ hk => hk.2) (.bool t369)) (fun _ h_ => h_.1))) hb); have n4_ := Aside0.mk (blk_below (g := gb330) (o := .cells #[.slice A2_0 l2_0.length c2_0, .slice A2_1 l2_1.length c2_1] 33 (0, 0)) (by (with_reducible repeat (first | refine blk_drewN ?_ _ | refine blk_drew ?_ | refine blk_alloc ?_ _)); refine blk_far ?_ NB330_372.out _; (with_reducible repeat (first | refine blk_drewN ?_ _ | refine blk_drew ?_ | refine blk_alloc ?_ _)); refine blk_far ?_ NB330_372.out _; (with_reducible repeat (first | refine blk_drewN ?_ _ | refine blk_drew ?_ | refine blk_alloc ?_ _)); refine blk_far ?_ NB330_372.out _; (with_reducible repeat (first | refine blk_drewN ?_ _ | refine blk_drew ?_ | refine blk_alloc ?_ _)); exact BK330.out) hb); have n5_ := Aside0.mk (blk_below (g := gb331) (o := .cells #[.slice A3_0 l3_0.length c3_0, .slice A3_1 l3_1.length c3_1] 33 (0, 0)) (by (with_reducible repeat (first | refine blk_drewN ?_ _ | refine blk_drew ?_ | refine blk_alloc ?_ _)); refine blk_far ?_ NB331_372.out _; (with_reducible repeat (first | refine blk_drewN ?_ _ | refine blk_drew ?_ | refine blk_alloc ?_ _)); refine blk_far ?_ NB331_372.out _; (with_reducible repeat (first | refine blk_drewN ?_ _ | refine blk_drew ?_ | refine blk_alloc ?_ _)); refine blk_far ?_ NB331_372.out _; (with_reducible repeat (first | refine blk_drewN ?_ _ | refine blk_drew ?_ | refine blk_alloc ?_ _)); exact BK331.out) hb); have n6_ := Aside0.mk (blk_below (g := gb332) (o := .cells #[.int .i64 a4_0, .int .i64 a4_1, .bool a4_2] 29 (0, 0)) (by (with_reducible repeat (first | refine blk_drewN ?_ _ | refine blk_drew ?_ | refine blk_alloc ?_ _)); refine blk_far ?_ NB332_372.out _; (with_reducible repeat (first | refine blk_drewN ?_ _ | refine blk_drew ?_ | refine blk_alloc ?_ _)); refine blk_far ?_ NB332_372.out _; (with_reducible repeat (first | refine blk_drewN ?_ _ | refine blk_drew ?_ | refine blk_alloc ?_ _)); refine blk_far ?_ NB332_372.out _; (with_reducible repeat (first | refine blk_drewN ?_ _ | refine blk_drew ?_ | refine blk_alloc ?_ _)); exact BK332.out) hb); have n7_ := Aside0.mk (blk_below (g := gb333) (o := .cells #[.int .i64 a5_0, .int .i64 a5_1, .bool a5_2] 29 (0, 0)) (by (with_reducible repeat (first | refine blk_drewN ?_ _ | refine blk_drew ?_ | refine blk_alloc ?_ _)); refine blk_far ?_ NB333_372.out _; (with_reducible repeat (first | refine blk_drewN ?_ _ | refine blk_drew ?_ | refine blk_alloc ?_ _)); refine blk_far ?_ NB333_372.out _; (with_reducible repeat (first | refine blk_drewN ?_ _ | refine blk_drew ?_ | refine blk_alloc ?_ _)); refine blk_far ?_ NB333_372.out _; (with_reducible repeat (first | refine blk_drewN ?_ _ | refine blk_drew ?_ | refine blk_alloc ?_ _)); exact BK333.out) hb); have n8_ := Aside0.mk (blk_below (g := gb351) (o := .cells #[.slice Ao42 t343.length co42, .slice Ao48 t346.length co48] 33 (0, 0)) (by (with_reducible repeat (first | refine blk_drewN ?_ _ | refine blk_drew ?_ | refine blk_alloc ?_ _)); refine blk_far ?_ NB351_372.out _; (with_reducible repeat (first | refine blk_drewN ?_ _ | refine blk_drew ?_ | refine blk_alloc ?_ _)); refine blk_far ?_ NB351_372.out _; (with_reducible repeat (first | refine blk_drewN ?_ _ | refine blk_drew ?_ | refine blk_alloc ?_ _)); refine blk_far ?_ NB351_372.out _; (with_reducible repeat (first | refine blk_drewN ?_ _ | refine blk_drew ?_ | refine blk_alloc ?_ _)); exact BK351.out) hb); have n9_ := Aside0.mk (blk_below (g := gb360) (o := .cells #[.slice Ao51 t352.length co51, .slice Ao58 t355.length co58] 33 (0, 0)) (by (with_reducible repeat (first | refine blk_drewN ?_ _ | refine blk_drew ?_ | refine blk_alloc ?_ _)); refine blk_far ?_ NB360_372.out _; (with_reducible repeat (first | refine blk_drewN ?_ _ | refine blk_drew ?_ | refine blk_alloc ?_ _)); refine blk_far ?_ NB360_372.out _; (with_reducible repeat (first | refine blk_drewN ?_ _ | refine blk_drew ?_ | refine blk_alloc ?_ _)); refine blk_far ?_ NB360_372.out _; (with_reducible repeat (first | refine blk_drewN ?_ _ | refine blk_drew ?_ | refine blk_alloc ?_ _)); exact BK360.out) hb); have n10_ := Aside0.mk (blk_below (g := gb366) (o := .cells #[.int .i64 t361, .int .i64 t362, .bool t363] 29 (0, 0)) (by (with_reducible repeat (first | refine blk_drewN ?_ _ | refine blk_drew ?_ | refine blk_alloc ?_ _)); refine blk_far ?_ NB366_372.out _; (with_reducible repeat (first | refine blk_drewN ?_ _ | refine blk_drew ?_ | refine blk_alloc ?_ _)); refine blk_far ?_ NB366_372.out _; (with_reducible repeat (first | refine blk_drewN ?_ _ | refine blk_drew ?_ | refine blk_alloc ?_ _)); refine blk_far ?_ NB366_372.out _; (with_reducible repeat (first | refine blk_drewN ?_ _ | refine blk_drew ?_ | refine blk_alloc ?_ _)); exact BK366.out) hb); have n11_ := Aside0.mk (blk_below (g := gb372) (o := .cells #[.int .i64 t367, .int .i64 t368, .bool t369] 29 (0, 0)) (by (with_reducible repeat (first | refine blk_drewN ?_ _ | refine blk_drew ?_ | refine blk_alloc ?_ _)); refine blk_put (cs := #[.int .i64 t367, .int .i64 t368, .bool false]) ?_ 2 _ rfl; (with_reducible repeat (first | refine blk_drewN ?_ _ | refine blk_drew ?_ | refine blk_alloc ?_ _)); refine blk_put (cs := #[.int .i64 t367, .int .i64 0, .bool false]) ?_ 1 _ rfl; (with_reducible repeat (first | refine blk_drewN ?_ _ | refine blk_drew ?_ | refine blk_alloc ?_ _)); refine blk_put (cs := #[.int .i64 0, .int .i64 0, .bool false]) ?_ 0 _ rfl; (with_reducible repeat (first | refine blk_drewN ?_ _ | refine blk_drew ?_ | refine blk_alloc ?_ _)); exact BK372.out) hb); have n12_ := Aside0.mk (below_step (by repeat (first | (with_reducible first | exact HB.out | apply below_alloc | apply pw_below_drewN | apply below_drew1 | refine below_set ?_ GE330.out | refine below_set ?_ GE331.out | refine below_set ?_ GE332.out | refine below_set ?_ GE333.out | refine below_set ?_ GE351.out | refine below_set ?_ GE360.out | refine below_set ?_ GE366.out | refine below_set ?_ GE372.out) | exact HB.out)) hb); clear HO345; clear HO348; clear HO354; clear HO357; clear BK330; clear BK331; clear BK332; clear BK333; clear BK351; clear BK360; clear BK366; clear BK372; clear HB; have HO345 := n0_; have HO348 := n1_; have HO354 := n2_; have HO357 := n3_; have BK330 := n4_; have BK331 := n5_; have BK332 := n6_; have BK333 := n7_; have BK351 := n8_; have BK360 := n9_; have BK366 := n10_; have BK372 := n11_; have HB := n12_; clear n0_ n1_ n2_ n3_ n4_ n5_ n6_ n7_ n8_ n9_ n10_ n11_ n12_; (try clear hb); (try clear hb2); (try clear hk); (try clear hi); have hnb103 := NB366_330.out; have hnc103 := NB330_366.out; have hnb104 := NB366_331.out; have hnc104 := NB331_366.out; have hnb105 := NB366_332.out; have hnc105 := NB332_366.out; have hnb106 := NB366_333.out; have hnc106 := NB333_366.out; have hnb107 := NB366_372.out; have hnc107 := NB372_366.out; have hcz108_0 : w102.cell? ⟨gb366, 0, none⟩ = some (.int .i64 t361) := (blk_cell BK366.out 0).trans rfl; have hcz108_1 : w102.cell? ⟨gb366, 1, none⟩ = some (.int .i64 t362) := (blk_cell BK366.out 1).trans rfl; have hcz108_2 : w102.cell? ⟨gb366, 2, none⟩ = some (.bool t363) := (blk_cell BK366.out 2).trans rfl; have hfz108_0 := blk_frozen BK366.out 0; have hfz108_1 := blk_frozen BK366.out 1; have hfz108_2 := blk_frozen BK366.out 2; have hnb109 := NB372_330.out; have hnc109 := NB330_372.out; have hnb110 := NB372_331.out; have hnc110 := NB331_372.out; have hnb111 := NB372_332.out; have hnc111 := NB332_372.out; have hnb112 := NB372_333.out; have hnc112 := NB333_372.out; have hcz113_0 : w102.cell? ⟨gb372, 0, none⟩ = some (.int .i64 t367) := (blk_cell BK372.out 0).trans rfl; have hcz113_1 : w102.cell? ⟨gb372, 1, none⟩ = some (.int .i64 t368) := (blk_cell BK372.out 1).trans rfl; have hcz113_2 : w102.cell? ⟨gb372, 2, none⟩ = some (.bool t369) := (blk_cell BK372.out 2).trans rfl; have hfz113_0 := blk_frozen BK372.out 0; have hfz113_1 := blk_frozen BK372.out 1; have hfz113_2 := blk_frozen BK372.out 2))
                          go_meet
                          case rel => exact ⟨_, ((t365 != t371)), (by first | rfl | (simp; done) | (simp [*]; done)), H', ⟨by have := HJ7.out; first | omega | exact Nat.le_refl _⟩, ⟨by (with_reducible repeat (first | apply Kd.R_alloc | apply Kd.R_drewN | apply Kd.R_drew)); exact Kd.R_mono HO345.out (fun _ hk => ⟨hk.1.1, ⟨hk.1.2, hk.2⟩⟩)⟩, ⟨by (with_reducible repeat (first | apply Kd.R_alloc | apply Kd.R_drewN | apply Kd.R_drew)); exact Kd.R_mono HO348.out (fun _ hk => ⟨hk.1.1, ⟨hk.1.2, hk.2⟩⟩)⟩, ⟨by (with_reducible repeat (first | apply Kd.R_alloc | apply Kd.R_drewN | apply Kd.R_drew)); exact Kd.R_mono HO354.out (fun _ hk => ⟨hk.1.2, ⟨hk.2, hk.1.1⟩⟩)⟩, ⟨by (with_reducible repeat (first | apply Kd.R_alloc | apply Kd.R_drewN | apply Kd.R_drew)); exact Kd.R_mono HO357.out (fun _ hk => ⟨hk.1.2, ⟨hk.2, hk.1.1⟩⟩)⟩, ⟨by (with_reducible repeat (first | refine blk_drewN ?_ _ | refine blk_drew ?_ | refine blk_alloc ?_ _)); exact BK330.out⟩, ⟨by (with_reducible repeat (first | refine blk_drewN ?_ _ | refine blk_drew ?_ | refine blk_alloc ?_ _)); exact BK331.out⟩, ⟨by (with_reducible repeat (first | refine blk_drewN ?_ _ | refine blk_drew ?_ | refine blk_alloc ?_ _)); exact BK332.out⟩, ⟨by (with_reducible repeat (first | refine blk_drewN ?_ _ | refine blk_drew ?_ | refine blk_alloc ?_ _)); exact BK333.out⟩, ⟨by (with_reducible repeat (first | refine blk_drewN ?_ _ | refine blk_drew ?_ | refine blk_alloc ?_ _)); exact BK351.out⟩, ⟨by (with_reducible repeat (first | refine blk_drewN ?_ _ | refine blk_drew ?_ | refine blk_alloc ?_ _)); exact BK360.out⟩, ⟨by (with_reducible repeat (first | refine blk_drewN ?_ _ | refine blk_drew ?_ | refine blk_alloc ?_ _)); exact BK366.out⟩, ⟨by (with_reducible repeat (first | refine blk_drewN ?_ _ | refine blk_drew ?_ | refine blk_alloc ?_ _)); exact BK372.out⟩, ⟨by repeat (first | (with_reducible first | exact HB.out | apply below_alloc | apply pw_below_drewN | apply below_drew1 | refine below_set ?_ GE330.out | refine below_set ?_ GE331.out | refine below_set ?_ GE332.out | refine below_set ?_ GE333.out | refine below_set ?_ GE351.out | refine below_set ?_ GE360.out | refine below_set ?_ GE366.out | refine below_set ?_ GE372.out) | exact HB.out)⟩⟩
                        · rw [if_neg c86] at H
                          have c86b0 : (t364 == t370) = false := beq_eq_false_iff_ne.mpr c86
                          have c86b1 : (t364 != t370) = true := bne_iff_ne.mpr c86
                          exfalso; rw [HRT_.out] at H; revert H; cases kj7 <;> simp [avocetlaw04_TypesIs.j1]
                    · rw [if_neg c84] at H
                      have c84b0 : (t350 == t359) = false := beq_eq_false_iff_ne.mpr c84
                      have c84b1 : (t350 != t359) = true := bne_iff_ne.mpr c84
                      exfalso; rw [HRT_.out] at H; revert H; cases kj7 <;> simp [avocetlaw04_TypesIs.j1]
                  · rw [if_neg c83] at H
                    have c83b0 : (t349 == t358) = false := beq_eq_false_iff_ne.mpr c83
                    have c83b1 : (t349 != t358) = true := bne_iff_ne.mpr c83
                    exfalso; rw [HRT_.out] at H; revert H; cases kj7 <;> simp [avocetlaw04_TypesIs.j1]
                · replace c82 := Bool.eq_false_iff.mpr c82
                  subst c82
                  have H1 : (avocetlaw04_TypesIs.j1 kj7 l0 t334 true l2_0 l2_1 l3_0 l3_1 a4_0 a4_1 a4_2 a5_0 a5_1 a5_2) = some r := by rw [if_neg (show ¬ (false = true) by decide)] at H; exact H
                  clear H
                  have H := H1
                  clear H1
                  exfalso; rw [HRT_.out] at H; revert H; cases kj7 <;> simp [avocetlaw04_TypesIs.j1]
              · rw [if_neg c80] at H
                have c80b0 : (t339 == t342) = false := beq_eq_false_iff_ne.mpr c80
                have c80b1 : (t339 != t342) = true := bne_iff_ne.mpr c80
                exfalso; rw [HRT_.out] at H; revert H; cases kj7 <;> simp [avocetlaw04_TypesIs.j1]
            · rw [if_neg c79] at H
              have c79b0 : (t338 == t341) = false := beq_eq_false_iff_ne.mpr c79
              have c79b1 : (t338 != t341) = true := bne_iff_ne.mpr c79
              exfalso; rw [HRT_.out] at H; revert H; cases kj7 <;> simp [avocetlaw04_TypesIs.j1]
          · rw [if_neg c78] at H
            have c78b0 : (t337 == t340) = false := beq_eq_false_iff_ne.mpr c78
            have c78b1 : (t337 != t340) = true := bne_iff_ne.mpr c78
            (first | rw [c78b0] | (simp only [i64_w, i32_w]; rw [c78b0]) | skip)
            exfalso; rw [HRT_.out] at H; revert H; cases kj7 <;> simp [avocetlaw04_TypesIs.j1]
        case rest =>
          clear HC39
          try clear c1
          try clear c2
          try clear p2
          try clear c3
          try clear c4
          try clear c5
          try clear c6
          try clear c7
          try clear c8
          try clear c9
          try clear c10
          try clear c11
          try clear c14
          try clear c14b0
          try clear c14b1
          try clear c16
          try clear c17
          try clear c18
          try clear c19
          try clear c20
          try clear c21
          try clear c23
          try clear c24
          try clear c27
          try clear c28
          try clear c29
          try clear c32
          try clear c43
          try clear c44
          try clear c45
          try clear c46
          try clear c52
          try clear c53
          try clear c54
          try clear c55
          try clear c56
          try clear c61
          try clear c62
          try clear c63
          try clear c64
          try clear c65
          try clear c66
          try clear c70
          try clear c71
          try clear c72
          try clear c73
          try clear c74
          try clear c75
          try clear c76
          try clear c78
          try clear c78b0
          try clear c78b1
          try clear c79
          try clear c79b0
          try clear c79b1
          try clear c80
          try clear c80b0
          try clear c80b1
          try clear c82
          try clear c83
          try clear c83b0
          try clear c83b1
          try clear c84
          try clear c84b0
          try clear c84b1
          try clear c85
          try clear c85b0
          try clear c86
          try clear c86b0
          try clear c86b1
          try clear c87
          try clear c88
          try clear c89
          try clear c90
          try clear c91
          try clear c92
          try clear c93
          try clear c95
          try clear c96
          try clear c97
          try clear c98
          try clear c99
          try clear c100
          try clear c103
          try clear c104
          try clear c105
          try clear c106
          try clear c107
          try clear c109
          try clear c110
          try clear c111
          try clear c112
          try clear hcz101_0
          try clear hcz101_1
          try clear hcz108_0
          try clear hcz108_1
          try clear hcz108_2
          try clear hcz113_0
          try clear hcz113_1
          try clear hcz113_2
          try clear hcz21_0
          try clear hcz21_1
          try clear hcz25_0
          try clear hcz25_1
          try clear hcz30_0
          try clear hcz30_1
          try clear hcz47_0
          try clear hcz47_1
          try clear hcz57_0
          try clear hcz57_1
          try clear hcz67_0
          try clear hcz67_1
          try clear hcz67_2
          try clear hcz77_0
          try clear hcz77_1
          try clear hcz77_2
          try clear hcz94_0
          try clear hcz94_1
          try clear hfz101_0
          try clear hfz101_1
          try clear hfz108_0
          try clear hfz108_1
          try clear hfz108_2
          try clear hfz113_0
          try clear hfz113_1
          try clear hfz113_2
          try clear hfz21_0
          try clear hfz21_1
          try clear hfz25_0
          try clear hfz25_1
          try clear hfz30_0
          try clear hfz30_1
          try clear hfz47_0
          try clear hfz47_1
          try clear hfz57_0
          try clear hfz57_1
          try clear hfz67_0
          try clear hfz67_1
          try clear hfz67_2
          try clear hfz77_0
          try clear hfz77_1
          try clear hfz77_2
          try clear hfz94_0
          try clear hfz94_1
          try clear p2
          obtain ⟨kq, x136_38, rfl, HA, HJ38, HO_352000, HO_352001, HO_361000, HO_361001, BK330, BK331, BK332, BK333, BK351, BK360, BK366, BK372, HB⟩ := hcut
          cases kq with
          | zero => exact absurd HA.out (by simp [avocetlaw04_TypesIs.j1])
          | succ kj38 =>
            have H := HA.out
            clear HA
            simp only [avocetlaw04_TypesIs.j1] at H
            by_cases c114 : x136_38 = true
            · subst c114
              have H1 : (some false) = some r := by rw [if_pos rfl] at H; exact H
              clear H
              have H := H1
              clear H1
              exact absurd ((Option.some.inj H).trans HRT_.out) (by decide)
            · replace c114 := Bool.eq_false_iff.mpr c114
              subst c114
              have H1 : ((types_PutFunc.f kj38 l0 l2_0 l2_1).bind fun bt374 => ((avocetref04_PutFunc.f kj38 l0 l2_0 l2_1).bind fun bt378 => ((types_PutLimits.f kj38 l0 a4_0 a4_1 a4_2).bind fun bt382 => ((avocetref04_PutLimits.f kj38 l0 a4_0 a4_1 a4_2).bind fun bt386 => (if t334 = true then (if (strOfNums bt374.1).toList = (strOfNums bt378.1).toList then (if bt374.2 = bt378.2 then (if (strOfNums bt382.1).toList = (strOfNums bt386.1).toList then (if bt382.2 = bt386.2 then ((types_Sane.f l2_0 l2_1).bind fun t390 => ((avocetref04_Sane.f kj38 l2_0 l2_1).bind fun t391 => (if (t390 == t391) = true then ((types_Same.f l2_0 l2_1 l3_0 l3_1).bind fun t392 => ((avocetref04_Same.f l2_0 l2_1 l3_0 l3_1).bind fun t393 => (if (t392 == t393) = true then ((types_Within.f a4_0 a4_1 a4_2 a5_0 a5_1 a5_2).bind fun t394 => ((avocetref04_Within.f a4_0 a4_1 a4_2 a5_0 a5_1 a5_2).bind fun t395 => (some (t394 == t395)))) else (some false)))) else (some false)))) else (some false)) else (some false)) else (some false)) else (some false)) else (some false)))))) = some r := by rw [if_neg (show ¬ (false = true) by decide)] at H; exact H
              clear H
              have H := H1
              clear H1
              replace H := Option.bind_eq_some_iff.mp H
              obtain ⟨⟨t374, t377⟩, A1150, H⟩ := H
              replace H : ((avocetref04_PutFunc.f kj38 l0 l2_0 l2_1).bind fun bt378 => ((types_PutLimits.f kj38 l0 a4_0 a4_1 a4_2).bind fun bt382 => ((avocetref04_PutLimits.f kj38 l0 a4_0 a4_1 a4_2).bind fun bt386 => (if t334 = true then (if (strOfNums t374).toList = (strOfNums bt378.1).toList then (if t377 = bt378.2 then (if (strOfNums bt382.1).toList = (strOfNums bt386.1).toList then (if bt382.2 = bt386.2 then ((types_Sane.f l2_0 l2_1).bind fun t390 => ((avocetref04_Sane.f kj38 l2_0 l2_1).bind fun t391 => (if (t390 == t391) = true then ((types_Same.f l2_0 l2_1 l3_0 l3_1).bind fun t392 => ((avocetref04_Same.f l2_0 l2_1 l3_0 l3_1).bind fun t393 => (if (t392 == t393) = true then ((types_Within.f a4_0 a4_1 a4_2 a5_0 a5_1 a5_2).bind fun t394 => ((avocetref04_Within.f a4_0 a4_1 a4_2 a5_0 a5_1 a5_2).bind fun t395 => (some (t394 == t395)))) else (some false)))) else (some false)))) else (some false)) else (some false)) else (some false)) else (some false)) else (some false))))) = some r := H
              have A115 := Aside0.mk A1150
              clear A1150
              replace H := Option.bind_eq_some_iff.mp H
              obtain ⟨⟨t378, t381⟩, A1160, H⟩ := H
              replace H : ((types_PutLimits.f kj38 l0 a4_0 a4_1 a4_2).bind fun bt382 => ((avocetref04_PutLimits.f kj38 l0 a4_0 a4_1 a4_2).bind fun bt386 => (if t334 = true then (if (strOfNums t374).toList = (strOfNums t378).toList then (if t377 = t381 then (if (strOfNums bt382.1).toList = (strOfNums bt386.1).toList then (if bt382.2 = bt386.2 then ((types_Sane.f l2_0 l2_1).bind fun t390 => ((avocetref04_Sane.f kj38 l2_0 l2_1).bind fun t391 => (if (t390 == t391) = true then ((types_Same.f l2_0 l2_1 l3_0 l3_1).bind fun t392 => ((avocetref04_Same.f l2_0 l2_1 l3_0 l3_1).bind fun t393 => (if (t392 == t393) = true then ((types_Within.f a4_0 a4_1 a4_2 a5_0 a5_1 a5_2).bind fun t394 => ((avocetref04_Within.f a4_0 a4_1 a4_2 a5_0 a5_1 a5_2).bind fun t395 => (some (t394 == t395)))) else (some false)))) else (some false)))) else (some false)) else (some false)) else (some false)) else (some false)) else (some false)))) = some r := H
              have A116 := Aside0.mk A1160
              clear A1160
              replace H := Option.bind_eq_some_iff.mp H
              obtain ⟨⟨t382, t385⟩, A1170, H⟩ := H
              replace H : ((avocetref04_PutLimits.f kj38 l0 a4_0 a4_1 a4_2).bind fun bt386 => (if t334 = true then (if (strOfNums t374).toList = (strOfNums t378).toList then (if t377 = t381 then (if (strOfNums t382).toList = (strOfNums bt386.1).toList then (if t385 = bt386.2 then ((types_Sane.f l2_0 l2_1).bind fun t390 => ((avocetref04_Sane.f kj38 l2_0 l2_1).bind fun t391 => (if (t390 == t391) = true then ((types_Same.f l2_0 l2_1 l3_0 l3_1).bind fun t392 => ((avocetref04_Same.f l2_0 l2_1 l3_0 l3_1).bind fun t393 => (if (t392 == t393) = true then ((types_Within.f a4_0 a4_1 a4_2 a5_0 a5_1 a5_2).bind fun t394 => ((avocetref04_Within.f a4_0 a4_1 a4_2 a5_0 a5_1 a5_2).bind fun t395 => (some (t394 == t395)))) else (some false)))) else (some false)))) else (some false)) else (some false)) else (some false)) else (some false)) else (some false))) = some r := H
              have A117 := Aside0.mk A1170
              clear A1170
              replace H := Option.bind_eq_some_iff.mp H
              obtain ⟨⟨t386, t389⟩, A1180, H⟩ := H
              replace H : (if t334 = true then (if (strOfNums t374).toList = (strOfNums t378).toList then (if t377 = t381 then (if (strOfNums t382).toList = (strOfNums t386).toList then (if t385 = t389 then ((types_Sane.f l2_0 l2_1).bind fun t390 => ((avocetref04_Sane.f kj38 l2_0 l2_1).bind fun t391 => (if (t390 == t391) = true then ((types_Same.f l2_0 l2_1 l3_0 l3_1).bind fun t392 => ((avocetref04_Same.f l2_0 l2_1 l3_0 l3_1).bind fun t393 => (if (t392 == t393) = true then ((types_Within.f a4_0 a4_1 a4_2 a5_0 a5_1 a5_2).bind fun t394 => ((avocetref04_Within.f a4_0 a4_1 a4_2 a5_0 a5_1 a5_2).bind fun t395 => (some (t394 == t395)))) else (some false)))) else (some false)))) else (some false)) else (some false)) else (some false)) else (some false)) else (some false)) = some r := H
              have A118 := Aside0.mk A1180
              clear A1180
              by_cases c119 : t334 = true
              · subst c119
                have H1 : (if (strOfNums t374).toList = (strOfNums t378).toList then (if t377 = t381 then (if (strOfNums t382).toList = (strOfNums t386).toList then (if t385 = t389 then ((types_Sane.f l2_0 l2_1).bind fun t390 => ((avocetref04_Sane.f kj38 l2_0 l2_1).bind fun t391 => (if (t390 == t391) = true then ((types_Same.f l2_0 l2_1 l3_0 l3_1).bind fun t392 => ((avocetref04_Same.f l2_0 l2_1 l3_0 l3_1).bind fun t393 => (if (t392 == t393) = true then ((types_Within.f a4_0 a4_1 a4_2 a5_0 a5_1 a5_2).bind fun t394 => ((avocetref04_Within.f a4_0 a4_1 a4_2 a5_0 a5_1 a5_2).bind fun t395 => (some (t394 == t395)))) else (some false)))) else (some false)))) else (some false)) else (some false)) else (some false)) else (some false)) = some r := by rw [if_pos rfl] at H; exact H
                clear H
                have H := H1
                clear H1
                by_cases c120 : (strOfNums t374).toList = (strOfNums t378).toList
                · rw [if_pos c120] at H
                  have c120b0 : ((strOfNums t374).toList == (strOfNums t378).toList) = true := beq_iff_eq.mpr c120
                  have c120b1 : ((strOfNums t374).toList != (strOfNums t378).toList) = false := bne_eq_false_iff_eq.mpr c120
                  clear c120
                  by_cases c121 : t377 = t381
                  · rw [if_pos c121] at H
                    have c121b0 : (t377 == t381) = true := beq_iff_eq.mpr c121
                    have c121b1 : (t377 != t381) = false := bne_eq_false_iff_eq.mpr c121
                    clear c121
                    by_cases c122 : (strOfNums t382).toList = (strOfNums t386).toList
                    · rw [if_pos c122] at H
                      have c122b0 : ((strOfNums t382).toList == (strOfNums t386).toList) = true := beq_iff_eq.mpr c122
                      have c122b1 : ((strOfNums t382).toList != (strOfNums t386).toList) = false := bne_eq_false_iff_eq.mpr c122
                      clear c122
                      by_cases c123 : t385 = t389
                      · rw [if_pos c123] at H
                        have c123b0 : (t385 == t389) = true := beq_iff_eq.mpr c123
                        have c123b1 : (t385 != t389) = false := bne_eq_false_iff_eq.mpr c123
                        clear c123
                        replace H := Option.bind_eq_some_iff.mp H
                        obtain ⟨t390, A1240, H⟩ := H
                        replace H : ((avocetref04_Sane.f kj38 l2_0 l2_1).bind fun t391 => (if (t390 == t391) = true then ((types_Same.f l2_0 l2_1 l3_0 l3_1).bind fun t392 => ((avocetref04_Same.f l2_0 l2_1 l3_0 l3_1).bind fun t393 => (if (t392 == t393) = true then ((types_Within.f a4_0 a4_1 a4_2 a5_0 a5_1 a5_2).bind fun t394 => ((avocetref04_Within.f a4_0 a4_1 a4_2 a5_0 a5_1 a5_2).bind fun t395 => (some (t394 == t395)))) else (some false)))) else (some false))) = some r := H
                        have A124 := Aside0.mk A1240
                        clear A1240
                        replace H := Option.bind_eq_some_iff.mp H
                        obtain ⟨t391, A1250, H⟩ := H
                        replace H : (if (t390 == t391) = true then ((types_Same.f l2_0 l2_1 l3_0 l3_1).bind fun t392 => ((avocetref04_Same.f l2_0 l2_1 l3_0 l3_1).bind fun t393 => (if (t392 == t393) = true then ((types_Within.f a4_0 a4_1 a4_2 a5_0 a5_1 a5_2).bind fun t394 => ((avocetref04_Within.f a4_0 a4_1 a4_2 a5_0 a5_1 a5_2).bind fun t395 => (some (t394 == t395)))) else (some false)))) else (some false)) = some r := H
                        have A125 := Aside0.mk A1250
                        clear A1250
                        by_cases c126 : (t390 == t391) = true
                        · rw [if_pos c126] at H
                          have c126b0 : (t390 == t391) = true := c126
                          (try (have c126b1 : decide (t390 = t391) = true := by simpa using c126))
                          (try (have c126b2 : (t390 == t391) = true := by simpa using c126))
                          clear c126
                          replace H := Option.bind_eq_some_iff.mp H
                          obtain ⟨t392, A1270, H⟩ := H
                          replace H : ((avocetref04_Same.f l2_0 l2_1 l3_0 l3_1).bind fun t393 => (if (t392 == t393) = true then ((types_Within.f a4_0 a4_1 a4_2 a5_0 a5_1 a5_2).bind fun t394 => ((avocetref04_Within.f a4_0 a4_1 a4_2 a5_0 a5_1 a5_2).bind fun t395 => (some (t394 == t395)))) else (some false))) = some r := H
                          have A127 := Aside0.mk A1270
                          clear A1270
                          replace H := Option.bind_eq_some_iff.mp H
                          obtain ⟨t393, A1280, H⟩ := H
                          replace H : (if (t392 == t393) = true then ((types_Within.f a4_0 a4_1 a4_2 a5_0 a5_1 a5_2).bind fun t394 => ((avocetref04_Within.f a4_0 a4_1 a4_2 a5_0 a5_1 a5_2).bind fun t395 => (some (t394 == t395)))) else (some false)) = some r := H
                          have A128 := Aside0.mk A1280
                          clear A1280
                          by_cases c129 : (t392 == t393) = true
                          · rw [if_pos c129] at H
                            have c129b0 : (t392 == t393) = true := c129
                            (try (have c129b1 : decide (t392 = t393) = true := by simpa using c129))
                            (try (have c129b2 : (t392 == t393) = true := by simpa using c129))
                            clear c129
                            replace H := Option.bind_eq_some_iff.mp H
                            obtain ⟨t394, A1300, H⟩ := H
                            replace H : ((avocetref04_Within.f a4_0 a4_1 a4_2 a5_0 a5_1 a5_2).bind fun t395 => (some (t394 == t395))) = some r := H
                            have A130 := Aside0.mk A1300
                            clear A1300
                            replace H := Option.bind_eq_some_iff.mp H
                            obtain ⟨t395, A1310, H⟩ := H
                            replace H : (some (t394 == t395)) = some r := H
                            have A131 := Aside0.mk A1310
                            clear A1310
                            obtain rfl := Option.some.inj H
                            have hnb132 := NB330_331.out
                            have hnc132 := NB331_330.out
                            have hnb133 := NB330_332.out
                            have hnc133 := NB332_330.out
                            have hnb134 := NB330_333.out
                            have hnc134 := NB333_330.out
                            have hnb135 := NB330_351.out
                            have hnc135 := NB351_330.out
                            have hnb136 := NB330_360.out
                            have hnc136 := NB360_330.out
                            have hnb137 := NB330_366.out
                            have hnc137 := NB366_330.out
                            have hnb138 := NB330_372.out
                            have hnc138 := NB372_330.out
                            have hcz139_0 : wc.cell? ⟨gb330, 0, none⟩ = some (.slice A2_0 l2_0.length c2_0) := (blk_cell BK330.out 0).trans rfl
                            have hcz139_1 : wc.cell? ⟨gb330, 1, none⟩ = some (.slice A2_1 l2_1.length c2_1) := (blk_cell BK330.out 1).trans rfl
                            have hfz139_0 := blk_frozen BK330.out 0
                            have hfz139_1 := blk_frozen BK330.out 1
                            try go_wp2_with (first | ((with_reducible refine gate_callee (f := 13) rfl ?_); refine goesL_ (some 140) rfl rfl Try.func13 (by kernel_rfl) rfl #[.slice A0 l0.length c0, .agg #[.slice A2_0 l2_0.length c2_0, .slice A2_1 l2_1.length c2_1]] rfl (by (try simp only [List.map_toArray, List.map_cons, List.map_nil]); first | done | rfl | (simp only [List.length_drop, List.length_take]; rfl)) ?_; (with_reducible refine (types_PutFunc.calls kj38 _ _ l0 (fun k_ => k_ < w.heap.size) _ _ l2_0 (fun k_ => k_ < w.heap.size) _ _ l2_1 t374 t377 _ ?side1 ?side2 ?side3 ?side4 A115.out).mono ?_); (case side1 => repeat (first | exact (Kd.C_below HR0.out HB.out) | (with_reducible refine Kd.C_alloc ?_ _) | (with_reducible refine Kd.C_drewN ?_ _) | (with_reducible refine Kd.C_drew ?_))); (case side2 => exact HC0.out); (case side3 => exact Kd.V_mk HC2_0.out (Kd.F_below (Kd.C_F (Kd.heap_int .u8) HR2_0.out) (by repeat (first | (with_reducible first | exact HB.out | apply below_alloc | apply pw_below_drewN | apply below_drew1 | refine below_set ?_ GE330.out | refine below_set ?_ GE331.out | refine below_set ?_ GE332.out | refine below_set ?_ GE333.out | refine below_set ?_ GE351.out | refine below_set ?_ GE360.out | refine below_set ?_ GE366.out | refine below_set ?_ GE372.out) | exact HB.out)))); (case side4 => exact Kd.V_mk HC2_1.out (Kd.F_below (Kd.C_F (Kd.heap_int .u8) HR2_1.out) (by repeat (first | (with_reducible first | exact HB.out | apply below_alloc | apply pw_below_drewN | apply below_drew1 | refine below_set ?_ GE330.out | refine below_set ?_ GE331.out | refine below_set ?_ GE332.out | refine below_set ?_ GE333.out | refine below_set ?_ GE351.out | refine below_set ?_ GE360.out | refine below_set ?_ GE366.out | refine below_set ?_ GE372.out) | exact HB.out)))); rintro e w140 ⟨v375, rfl, ho0, hb⟩; refine ⟨_, rfl, ?_⟩; have n0_ := Aside0.mk (Kd.R_elder' (by (with_reducible repeat (first | apply Kd.R_alloc | apply Kd.R_drewN | apply Kd.R_drew)); exact HO_352000.out) (Kd.R_base ho0) hb); have n1_ := Aside0.mk (Kd.R_elder' (by (with_reducible repeat (first | apply Kd.R_alloc | apply Kd.R_drewN | apply Kd.R_drew)); exact HO_352001.out) (Kd.R_base ho0) hb); have n2_ := Aside0.mk (Kd.R_elder' (by (with_reducible repeat (first | apply Kd.R_alloc | apply Kd.R_drewN | apply Kd.R_drew)); exact HO_361000.out) (Kd.R_base ho0) hb); have n3_ := Aside0.mk (Kd.R_elder' (by (with_reducible repeat (first | apply Kd.R_alloc | apply Kd.R_drewN | apply Kd.R_drew)); exact HO_361001.out) (Kd.R_base ho0) hb); have n4_ := Aside0.mk (Kd.R_lower (Kd.R_new' (Kd.R_new' (Kd.R_new' (Kd.R_new' (Kd.R_mono (ok' := fun k_ => True) ho0 (fun _ hk_ => trivial)) (Kd.R_lt (by (with_reducible repeat (first | apply Kd.R_alloc | apply Kd.R_drewN | apply Kd.R_drew)); exact HO_352000.out))) (Kd.R_lt (by (with_reducible repeat (first | apply Kd.R_alloc | apply Kd.R_drewN | apply Kd.R_drew)); exact HO_352001.out))) (Kd.R_lt (by (with_reducible repeat (first | apply Kd.R_alloc | apply Kd.R_drewN | apply Kd.R_drew)); exact HO_361000.out))) (Kd.R_lt (by (with_reducible repeat (first | apply Kd.R_alloc | apply Kd.R_drewN | apply Kd.R_drew)); exact HO_361001.out))) (below_size (by repeat (first | (with_reducible first | exact HB.out | apply below_alloc | apply pw_below_drewN | apply below_drew1 | refine below_set ?_ GE330.out | refine below_set ?_ GE331.out | refine below_set ?_ GE332.out | refine below_set ?_ GE333.out | refine below_set ?_ GE351.out | refine below_set ?_ GE360.out | refine below_set ?_ GE366.out | refine below_set ?_ GE372.out) | exact HB.out)))); have n5_ := Aside0.mk (blk_below (g := gb330) (o := .cells #[.slice A2_0 l2_0.length c2_0, .slice A2_1 l2_1.length c2_1] 33 (0, 0)) (by (with_reducible repeat (first | refine blk_drewN ?_ _ | refine blk_drew ?_ | refine blk_alloc ?_ _)); exact BK330.out) hb); have n6_ := Aside0.mk (blk_below (g := gb331) (o := .cells #[.slice A3_0 l3_0.length c3_0, .slice A3_1 l3_1.length c3_1] 33 (0, 0)) (by (with_reducible repeat (first | refine blk_drewN ?_ _ | refine blk_drew ?_ | refine blk_alloc ?_ _)); exact BK331.out) hb); have n7_ := Aside0.mk (blk_below (g := gb332) (o := .cells #[.int .i64 a4_0, .int .i64 a4_1, .bool a4_2] 29 (0, 0)) (by (with_reducible repeat (first | refine blk_drewN ?_ _ | refine blk_drew ?_ | refine blk_alloc ?_ _)); exact BK332.out) hb); have n8_ := Aside0.mk (blk_below (g := gb333) (o := .cells #[.int .i64 a5_0, .int .i64 a5_1, .bool a5_2] 29 (0, 0)) (by (with_reducible repeat (first | refine blk_drewN ?_ _ | refine blk_drew ?_ | refine blk_alloc ?_ _)); exact BK333.out) hb); have n9_ := Aside0.mk (blk_below (g := gb351) (o := .cells #[.slice Ao42 t343.length co42, .slice Ao48 t346.length co48] 33 (0, 0)) (by (with_reducible repeat (first | refine blk_drewN ?_ _ | refine blk_drew ?_ | refine blk_alloc ?_ _)); exact BK351.out) hb); have n10_ := Aside0.mk (blk_below (g := gb360) (o := .cells #[.slice Ao51 t352.length co51, .slice Ao58 t355.length co58] 33 (0, 0)) (by (with_reducible repeat (first | refine blk_drewN ?_ _ | refine blk_drew ?_ | refine blk_alloc ?_ _)); exact BK360.out) hb); have n11_ := Aside0.mk (blk_below (g := gb366) (o := .cells #[.int .i64 t361, .int .i64 t362, .bool t363] 29 (0, 0)) (by (with_reducible repeat (first | refine blk_drewN ?_ _ | refine blk_drew ?_ | refine blk_alloc ?_ _)); exact BK366.out) hb); have n12_ := Aside0.mk (blk_below (g := gb372) (o := .cells #[.int .i64 t367, .int .i64 t368, .bool t369] 29 (0, 0)) (by (with_reducible repeat (first | refine blk_drewN ?_ _ | refine blk_drew ?_ | refine blk_alloc ?_ _)); exact BK372.out) hb); have n13_ := Aside0.mk (below_step (by repeat (first | (with_reducible first | exact HB.out | apply below_alloc | apply pw_below_drewN | apply below_drew1 | refine below_set ?_ GE330.out | refine below_set ?_ GE331.out | refine below_set ?_ GE332.out | refine below_set ?_ GE333.out | refine below_set ?_ GE351.out | refine below_set ?_ GE360.out | refine below_set ?_ GE366.out | refine below_set ?_ GE372.out) | exact HB.out)) hb); clear HO_352000; clear HO_352001; clear HO_361000; clear HO_361001; clear BK330; clear BK331; clear BK332; clear BK333; clear BK351; clear BK360; clear BK366; clear BK372; clear HB; have HO_352000 := n0_; have HO_352001 := n1_; have HO_361000 := n2_; have HO_361001 := n3_; have HO376 := n4_; have BK330 := n5_; have BK331 := n6_; have BK332 := n7_; have BK333 := n8_; have BK351 := n9_; have BK360 := n10_; have BK366 := n11_; have BK372 := n12_; have HB := n13_; clear n0_ n1_ n2_ n3_ n4_ n5_ n6_ n7_ n8_ n9_ n10_ n11_ n12_ n13_; (try clear hb); (try clear hb2); (try clear hk); (try clear hi); (try clear ho0); have hcz141_0 : w140.cell? ⟨gb330, 0, none⟩ = some (.slice A2_0 l2_0.length c2_0) := (blk_cell BK330.out 0).trans rfl; have hcz141_1 : w140.cell? ⟨gb330, 1, none⟩ = some (.slice A2_1 l2_1.length c2_1) := (blk_cell BK330.out 1).trans rfl; have hfz141_0 := blk_frozen BK330.out 0; have hfz141_1 := blk_frozen BK330.out 1) | ((with_reducible refine gate_callee (f := 23) rfl ?_); refine goesL_ (some 146) rfl rfl Try.func23 (by kernel_rfl) rfl #[.slice A0 l0.length c0, .agg #[.slice A2_0 l2_0.length c2_0, .slice A2_1 l2_1.length c2_1]] rfl (by (try simp only [List.map_toArray, List.map_cons, List.map_nil]); first | done | rfl | (simp only [List.length_drop, List.length_take]; rfl)) ?_; (with_reducible refine (avocetref04_PutFunc.calls kj38 _ _ l0 _ _ l2_0 _ _ l2_1 t378 t381 _ ?side1 ?side2 ?side3 ?side4 ?side5 ?side6 A116.out).mono ?_); (case side1 => repeat (first | exact (Kd.C_below HR0.out HB.out) | (with_reducible refine Kd.C_alloc ?_ _) | (with_reducible refine Kd.C_drewN ?_ _) | (with_reducible refine Kd.C_drew ?_))); (case side2 => exact HC0.out); (case side3 => repeat (first | exact (Kd.C_below HR2_0.out HB.out) | (with_reducible refine Kd.C_alloc ?_ _) | (with_reducible refine Kd.C_drewN ?_ _) | (with_reducible refine Kd.C_drew ?_))); (case side4 => exact HC2_0.out); (case side5 => repeat (first | exact (Kd.C_below HR2_1.out HB.out) | (with_reducible refine Kd.C_alloc ?_ _) | (with_reducible refine Kd.C_drewN ?_ _) | (with_reducible refine Kd.C_drew ?_))); (case side6 => exact HC2_1.out); rintro e w142 ⟨v379, rfl, ho0, hb⟩; refine ⟨_, rfl, ?_⟩; have n0_ := Aside0.mk (Kd.R_elder' (by (with_reducible repeat (first | apply Kd.R_alloc | apply Kd.R_drewN | apply Kd.R_drew)); exact HO_352000.out) (Kd.R_base ho0) hb); have n1_ := Aside0.mk (Kd.R_elder' (by (with_reducible repeat (first | apply Kd.R_alloc | apply Kd.R_drewN | apply Kd.R_drew)); exact HO_352001.out) (Kd.R_base ho0) hb); have n2_ := Aside0.mk (Kd.R_elder' (by (with_reducible repeat (first | apply Kd.R_alloc | apply Kd.R_drewN | apply Kd.R_drew)); exact HO_361000.out) (Kd.R_base ho0) hb); have n3_ := Aside0.mk (Kd.R_elder' (by (with_reducible repeat (first | apply Kd.R_alloc | apply Kd.R_drewN | apply Kd.R_drew)); exact HO_361001.out) (Kd.R_base ho0) hb); have n4_ := Aside0.mk (Kd.R_elder' (by (with_reducible repeat (first | apply Kd.R_alloc | apply Kd.R_drewN | apply Kd.R_drew)); exact HO376.out) (Kd.R_base ho0) hb); have n5_ := Aside0.mk (Kd.R_lower (Kd.R_new' (Kd.R_new' (Kd.R_new' (Kd.R_new' (Kd.R_new' ho0 (Kd.R_lt (by (with_reducible repeat (first | apply Kd.R_alloc | apply Kd.R_drewN | apply Kd.R_drew)); exact HO_352000.out))) (Kd.R_lt (by (with_reducible repeat (first | apply Kd.R_alloc | apply Kd.R_drewN | apply Kd.R_drew)); exact HO_352001.out))) (Kd.R_lt (by (with_reducible repeat (first | apply Kd.R_alloc | apply Kd.R_drewN | apply Kd.R_drew)); exact HO_361000.out))) (Kd.R_lt (by (with_reducible repeat (first | apply Kd.R_alloc | apply Kd.R_drewN | apply Kd.R_drew)); exact HO_361001.out))) (Kd.R_lt (by (with_reducible repeat (first | apply Kd.R_alloc | apply Kd.R_drewN | apply Kd.R_drew)); exact HO376.out))) (below_size (by repeat (first | (with_reducible first | exact HB.out | apply below_alloc | apply pw_below_drewN | apply below_drew1 | refine below_set ?_ GE330.out | refine below_set ?_ GE331.out | refine below_set ?_ GE332.out | refine below_set ?_ GE333.out | refine below_set ?_ GE351.out | refine below_set ?_ GE360.out | refine below_set ?_ GE366.out | refine below_set ?_ GE372.out) | exact HB.out)))); have n6_ := Aside0.mk (blk_below (g := gb330) (o := .cells #[.slice A2_0 l2_0.length c2_0, .slice A2_1 l2_1.length c2_1] 33 (0, 0)) (by (with_reducible repeat (first | refine blk_drewN ?_ _ | refine blk_drew ?_ | refine blk_alloc ?_ _)); exact BK330.out) hb); have n7_ := Aside0.mk (blk_below (g := gb331) (o := .cells #[.slice A3_0 l3_0.length c3_0, .slice A3_1 l3_1.length c3_1] 33 (0, 0)) (by (with_reducible repeat (first | refine blk_drewN ?_ _ | refine blk_drew ?_ | refine blk_alloc ?_ _)); exact BK331.out) hb); have n8_ := Aside0.mk (blk_below (g := gb332) (o := .cells #[.int .i64 a4_0, .int .i64 a4_1, .bool a4_2] 29 (0, 0)) (by (with_reducible repeat (first | refine blk_drewN ?_ _ | refine blk_drew ?_ | refine blk_alloc ?_ _)); exact BK332.out) hb); have n9_ := Aside0.mk (blk_below (g := gb333) (o := .cells #[.int .i64 a5_0, .int .i64 a5_1, .bool a5_2] 29 (0, 0)) (by (with_reducible repeat (first | refine blk_drewN ?_ _ | refine blk_drew ?_ | refine blk_alloc ?_ _)); exact BK333.out) hb); have n10_ := Aside0.mk (blk_below (g := gb351) (o := .cells #[.slice Ao42 t343.length co42, .slice Ao48 t346.length co48] 33 (0, 0)) (by (with_reducible repeat (first | refine blk_drewN ?_ _ | refine blk_drew ?_ | refine blk_alloc ?_ _)); exact BK351.out) hb); have n11_ := Aside0.mk (blk_below (g := gb360) (o := .cells #[.slice Ao51 t352.length co51, .slice Ao58 t355.length co58] 33 (0, 0)) (by (with_reducible repeat (first | refine blk_drewN ?_ _ | refine blk_drew ?_ | refine blk_alloc ?_ _)); exact BK360.out) hb); have n12_ := Aside0.mk (blk_below (g := gb366) (o := .cells #[.int .i64 t361, .int .i64 t362, .bool t363] 29 (0, 0)) (by (with_reducible repeat (first | refine blk_drewN ?_ _ | refine blk_drew ?_ | refine blk_alloc ?_ _)); exact BK366.out) hb); have n13_ := Aside0.mk (blk_below (g := gb372) (o := .cells #[.int .i64 t367, .int .i64 t368, .bool t369] 29 (0, 0)) (by (with_reducible repeat (first | refine blk_drewN ?_ _ | refine blk_drew ?_ | refine blk_alloc ?_ _)); exact BK372.out) hb); have n14_ := Aside0.mk (below_step (by repeat (first | (with_reducible first | exact HB.out | apply below_alloc | apply pw_below_drewN | apply below_drew1 | refine below_set ?_ GE330.out | refine below_set ?_ GE331.out | refine below_set ?_ GE332.out | refine below_set ?_ GE333.out | refine below_set ?_ GE351.out | refine below_set ?_ GE360.out | refine below_set ?_ GE366.out | refine below_set ?_ GE372.out) | exact HB.out)) hb); clear HO_352000; clear HO_352001; clear HO_361000; clear HO_361001; clear HO376; clear BK330; clear BK331; clear BK332; clear BK333; clear BK351; clear BK360; clear BK366; clear BK372; clear HB; have HO_352000 := n0_; have HO_352001 := n1_; have HO_361000 := n2_; have HO_361001 := n3_; have HO376 := n4_; have HO380 := n5_; have BK330 := n6_; have BK331 := n7_; have BK332 := n8_; have BK333 := n9_; have BK351 := n10_; have BK360 := n11_; have BK366 := n12_; have BK372 := n13_; have HB := n14_; clear n0_ n1_ n2_ n3_ n4_ n5_ n6_ n7_ n8_ n9_ n10_ n11_ n12_ n13_ n14_; (try clear hb); (try clear hb2); (try clear hk); (try clear hi); (try clear ho0); have hnb143 := NB332_331.out; have hnc143 := NB331_332.out; have hnb144 := NB332_333.out; have hnc144 := NB333_332.out; have hnb145 := NB332_351.out; have hnc145 := NB351_332.out; have hnb146 := NB332_360.out; have hnc146 := NB360_332.out; have hnb147 := NB332_366.out; have hnc147 := NB366_332.out; have hnb148 := NB332_372.out; have hnc148 := NB372_332.out; have hcz149_0 : w142.cell? ⟨gb332, 0, none⟩ = some (.int .i64 a4_0) := (blk_cell BK332.out 0).trans rfl; have hcz149_1 : w142.cell? ⟨gb332, 1, none⟩ = some (.int .i64 a4_1) := (blk_cell BK332.out 1).trans rfl; have hcz149_2 : w142.cell? ⟨gb332, 2, none⟩ = some (.bool a4_2) := (blk_cell BK332.out 2).trans rfl; have hfz149_0 := blk_frozen BK332.out 0; have hfz149_1 := blk_frozen BK332.out 1; have hfz149_2 := blk_frozen BK332.out 2) | ((with_reducible refine gate_callee (f := 18) rfl ?_); refine goesL_ (some 152) rfl rfl Try.func18 (by kernel_rfl) rfl #[.slice A0 l0.length c0, .agg #[.int .i64 a4_0, .int .i64 a4_1, .bool a4_2]] rfl (by (try simp only [List.map_toArray, List.map_cons, List.map_nil]); first | done | rfl | (simp only [List.length_drop, List.length_take]; rfl)) ?_; (with_reducible refine (types_PutLimits.calls kj38 _ _ l0 a4_0 a4_1 a4_2 t382 t385 _ ?side1 ?side2 A117.out).mono ?_); (case side1 => repeat (first | exact (Kd.C_below HR0.out HB.out) | (with_reducible refine Kd.C_alloc ?_ _) | (with_reducible refine Kd.C_drewN ?_ _) | (with_reducible refine Kd.C_drew ?_))); (case side2 => exact HC0.out); rintro e w150 ⟨v383, rfl, ho0, hb⟩; refine ⟨_, rfl, ?_⟩; have n0_ := Aside0.mk (Kd.R_elder' (by (with_reducible repeat (first | apply Kd.R_alloc | apply Kd.R_drewN | apply Kd.R_drew)); exact HO_352000.out) (Kd.R_base ho0) hb); have n1_ := Aside0.mk (Kd.R_elder' (by (with_reducible repeat (first | apply Kd.R_alloc | apply Kd.R_drewN | apply Kd.R_drew)); exact HO_352001.out) (Kd.R_base ho0) hb); have n2_ := Aside0.mk (Kd.R_elder' (by (with_reducible repeat (first | apply Kd.R_alloc | apply Kd.R_drewN | apply Kd.R_drew)); exact HO_361000.out) (Kd.R_base ho0) hb); have n3_ := Aside0.mk (Kd.R_elder' (by (with_reducible repeat (first | apply Kd.R_alloc | apply Kd.R_drewN | apply Kd.R_drew)); exact HO_361001.out) (Kd.R_base ho0) hb); have n4_ := Aside0.mk (Kd.R_elder' (by (with_reducible repeat (first | apply Kd.R_alloc | apply Kd.R_drewN | apply Kd.R_drew)); exact HO376.out) (Kd.R_base ho0) hb); have n5_ := Aside0.mk (Kd.R_elder' (by (with_reducible repeat (first | apply Kd.R_alloc | apply Kd.R_drewN | apply Kd.R_drew)); exact HO380.out) (Kd.R_base ho0) hb); have n6_ := Aside0.mk (Kd.R_lower (Kd.R_new' (Kd.R_new' (Kd.R_new' (Kd.R_new' (Kd.R_new' (Kd.R_new' ho0 (Kd.R_lt (by (with_reducible repeat (first | apply Kd.R_alloc | apply Kd.R_drewN | apply Kd.R_drew)); exact HO_352000.out))) (Kd.R_lt (by (with_reducible repeat (first | apply Kd.R_alloc | apply Kd.R_drewN | apply Kd.R_drew)); exact HO_352001.out))) (Kd.R_lt (by (with_reducible repeat (first | apply Kd.R_alloc | apply Kd.R_drewN | apply Kd.R_drew)); exact HO_361000.out))) (Kd.R_lt (by (with_reducible repeat (first | apply Kd.R_alloc | apply Kd.R_drewN | apply Kd.R_drew)); exact HO_361001.out))) (Kd.R_lt (by (with_reducible repeat (first | apply Kd.R_alloc | apply Kd.R_drewN | apply Kd.R_drew)); exact HO376.out))) (Kd.R_lt (by (with_reducible repeat (first | apply Kd.R_alloc | apply Kd.R_drewN | apply Kd.R_drew)); exact HO380.out))) (below_size (by repeat (first | (with_reducible first | exact HB.out | apply below_alloc | apply pw_below_drewN | apply below_drew1 | refine below_set ?_ GE330.out | refine below_set ?_ GE331.out | refine below_set ?_ GE332.out | refine below_set ?_ GE333.out | refine below_set ?_ GE351.out | refine below_set ?_ GE360.out | refine below_set ?_ GE366.out | refine below_set ?_ GE372.out) | exact HB.out)))); have n7_ := Aside0.mk (blk_below (g := gb330) (o := .cells #[.slice A2_0 l2_0.length c2_0, .slice A2_1 l2_1.length c2_1] 33 (0, 0)) (by (with_reducible repeat (first | refine blk_drewN ?_ _ | refine blk_drew ?_ | refine blk_alloc ?_ _)); exact BK330.out) hb); have n8_ := Aside0.mk (blk_below (g := gb331) (o := .cells #[.slice A3_0 l3_0.length c3_0, .slice A3_1 l3_1.length c3_1] 33 (0, 0)) (by (with_reducible repeat (first | refine blk_drewN ?_ _ | refine blk_drew ?_ | refine blk_alloc ?_ _)); exact BK331.out) hb); have n9_ := Aside0.mk (blk_below (g := gb332) (o := .cells #[.int .i64 a4_0, .int .i64 a4_1, .bool a4_2] 29 (0, 0)) (by (with_reducible repeat (first | refine blk_drewN ?_ _ | refine blk_drew ?_ | refine blk_alloc ?_ _)); exact BK332.out) hb); have n10_ := Aside0.mk (blk_below (g := gb333) (o := .cells #[.int .i64 a5_0, .int .i64 a5_1, .bool a5_2] 29 (0, 0)) (by (with_reducible repeat (first | refine blk_drewN ?_ _ | refine blk_drew ?_ | refine blk_alloc ?_ _)); exact BK333.out) hb); have n11_ := Aside0.mk (blk_below (g := gb351) (o := .cells #[.slice Ao42 t343.length co42, .slice Ao48 t346.length co48] 33 (0, 0)) (by (with_reducible repeat (first | refine blk_drewN ?_ _ | refine blk_drew ?_ | refine blk_alloc ?_ _)); exact BK351.out) hb); have n12_ := Aside0.mk (blk_below (g := gb360) (o := .cells #[.slice Ao51 t352.length co51, .slice Ao58 t355.length co58] 33 (0, 0)) (by (with_reducible repeat (first | refine blk_drewN ?_ _ | refine blk_drew ?_ | refine blk_alloc ?_ _)); exact BK360.out) hb); have n13_ := Aside0.mk (blk_below (g := gb366) (o := .cells #[.int .i64 t361, .int .i64 t362, .bool t363] 29 (0, 0)) (by (with_reducible repeat (first | refine blk_drewN ?_ _ | refine blk_drew ?_ | refine blk_alloc ?_ _)); exact BK366.out) hb); have n14_ := Aside0.mk (blk_below (g := gb372) (o := .cells #[.int .i64 t367, .int .i64 t368, .bool t369] 29 (0, 0)) (by (with_reducible repeat (first | refine blk_drewN ?_ _ | refine blk_drew ?_ | refine blk_alloc ?_ _)); exact BK372.out) hb); have n15_ := Aside0.mk (below_step (by repeat (first | (with_reducible first | exact HB.out | apply below_alloc | apply pw_below_drewN | apply below_drew1 | refine below_set ?_ GE330.out | refine below_set ?_ GE331.out | refine below_set ?_ GE332.out | refine below_set ?_ GE333.out | refine below_set ?_ GE351.out | refine below_set ?_ GE360.out | refine below_set ?_ GE366.out | refine below_set ?_ GE372.out) | exact HB.out)) hb); clear HO_352000; clear HO_352001; clear HO_361000; clear HO_361001; clear HO376; clear HO380; clear BK330; clear BK331; clear BK332; clear BK333; clear BK351; clear BK360; clear BK366; clear BK372; clear HB; have HO_352000 := n0_; have HO_352001 := n1_; have HO_361000 := n2_; have HO_361001 := n3_; have HO376 := n4_; have HO380 := n5_; have HO384 := n6_; have BK330 := n7_; have BK331 := n8_; have BK332 := n9_; have BK333 := n10_; have BK351 := n11_; have BK360 := n12_; have BK366 := n13_; have BK372 := n14_; have HB := n15_; clear n0_ n1_ n2_ n3_ n4_ n5_ n6_ n7_ n8_ n9_ n10_ n11_ n12_ n13_ n14_ n15_; (try clear hb); (try clear hb2); (try clear hk); (try clear hi); (try clear ho0); have hcz151_0 : w150.cell? ⟨gb332, 0, none⟩ = some (.int .i64 a4_0) := (blk_cell BK332.out 0).trans rfl; have hcz151_1 : w150.cell? ⟨gb332, 1, none⟩ = some (.int .i64 a4_1) := (blk_cell BK332.out 1).trans rfl; have hcz151_2 : w150.cell? ⟨gb332, 2, none⟩ = some (.bool a4_2) := (blk_cell BK332.out 2).trans rfl; have hfz151_0 := blk_frozen BK332.out 0; have hfz151_1 := blk_frozen BK332.out 1; have hfz151_2 := blk_frozen BK332.out 2) | ((with_reducible refine gate_callee (f := 24) rfl ?_); refine goesL_ (some 158) rfl rfl Try.func24 (by kernel_rfl) rfl #[.slice A0 l0.length c0, .agg #[.int .i64 a4_0, .int .i64 a4_1, .bool a4_2]] rfl (by (try simp only [List.map_toArray, List.map_cons, List.map_nil]); first | done | rfl | (simp only [List.length_drop, List.length_take]; rfl)) ?_; (with_reducible refine (avocetref04_PutLimits.calls kj38 _ _ l0 a4_0 a4_1 a4_2 t386 t389 _ ?side1 ?side2 A118.out).mono ?_); (case side1 => repeat (first | exact (Kd.C_below HR0.out HB.out) | (with_reducible refine Kd.C_alloc ?_ _) | (with_reducible refine Kd.C_drewN ?_ _) | (with_reducible refine Kd.C_drew ?_))); (case side2 => exact HC0.out); rintro e w152 ⟨v387, rfl, ho0, hb⟩; refine ⟨_, rfl, ?_⟩; have n0_ := Aside0.mk (Kd.R_elder' (by (with_reducible repeat (first | apply Kd.R_alloc | apply Kd.R_drewN | apply Kd.R_drew)); exact HO_352000.out) (Kd.R_base ho0) hb); have n1_ := Aside0.mk (Kd.R_elder' (by (with_reducible repeat (first | apply Kd.R_alloc | apply Kd.R_drewN | apply Kd.R_drew)); exact HO_352001.out) (Kd.R_base ho0) hb); have n2_ := Aside0.mk (Kd.R_elder' (by (with_reducible repeat (first | apply Kd.R_alloc | apply Kd.R_drewN | apply Kd.R_drew)); exact HO_361000.out) (Kd.R_base ho0) hb); have n3_ := Aside0.mk (Kd.R_elder' (by (with_reducible repeat (first | apply Kd.R_alloc | apply Kd.R_drewN | apply Kd.R_drew)); exact HO_361001.out) (Kd.R_base ho0) hb); have n4_ := Aside0.mk (Kd.R_elder' (by (with_reducible repeat (first | apply Kd.R_alloc | apply Kd.R_drewN | apply Kd.R_drew)); exact HO376.out) (Kd.R_base ho0) hb); have n5_ := Aside0.mk (Kd.R_elder' (by (with_reducible repeat (first | apply Kd.R_alloc | apply Kd.R_drewN | apply Kd.R_drew)); exact HO380.out) (Kd.R_base ho0) hb); have n6_ := Aside0.mk (Kd.R_elder' (by (with_reducible repeat (first | apply Kd.R_alloc | apply Kd.R_drewN | apply Kd.R_drew)); exact HO384.out) (Kd.R_base ho0) hb); have n7_ := Aside0.mk (Kd.R_lower (Kd.R_new' (Kd.R_new' (Kd.R_new' (Kd.R_new' (Kd.R_new' (Kd.R_new' (Kd.R_new' ho0 (Kd.R_lt (by (with_reducible repeat (first | apply Kd.R_alloc | apply Kd.R_drewN | apply Kd.R_drew)); exact HO_352000.out))) (Kd.R_lt (by (with_reducible repeat (first | apply Kd.R_alloc | apply Kd.R_drewN | apply Kd.R_drew)); exact HO_352001.out))) (Kd.R_lt (by (with_reducible repeat (first | apply Kd.R_alloc | apply Kd.R_drewN | apply Kd.R_drew)); exact HO_361000.out))) (Kd.R_lt (by (with_reducible repeat (first | apply Kd.R_alloc | apply Kd.R_drewN | apply Kd.R_drew)); exact HO_361001.out))) (Kd.R_lt (by (with_reducible repeat (first | apply Kd.R_alloc | apply Kd.R_drewN | apply Kd.R_drew)); exact HO376.out))) (Kd.R_lt (by (with_reducible repeat (first | apply Kd.R_alloc | apply Kd.R_drewN | apply Kd.R_drew)); exact HO380.out))) (Kd.R_lt (by (with_reducible repeat (first | apply Kd.R_alloc | apply Kd.R_drewN | apply Kd.R_drew)); exact HO384.out))) (below_size (by repeat (first | (with_reducible first | exact HB.out | apply below_alloc | apply pw_below_drewN | apply below_drew1 | refine below_set ?_ GE330.out | refine below_set ?_ GE331.out | refine below_set ?_ GE332.out | refine below_set ?_ GE333.out | refine below_set ?_ GE351.out | refine below_set ?_ GE360.out | refine below_set ?_ GE366.out | refine below_set ?_ GE372.out) | exact HB.out)))); have n8_ := Aside0.mk (blk_below (g := gb330) (o := .cells #[.slice A2_0 l2_0.length c2_0, .slice A2_1 l2_1.length c2_1] 33 (0, 0)) (by (with_reducible repeat (first | refine blk_drewN ?_ _ | refine blk_drew ?_ | refine blk_alloc ?_ _)); exact BK330.out) hb); have n9_ := Aside0.mk (blk_below (g := gb331) (o := .cells #[.slice A3_0 l3_0.length c3_0, .slice A3_1 l3_1.length c3_1] 33 (0, 0)) (by (with_reducible repeat (first | refine blk_drewN ?_ _ | refine blk_drew ?_ | refine blk_alloc ?_ _)); exact BK331.out) hb); have n10_ := Aside0.mk (blk_below (g := gb332) (o := .cells #[.int .i64 a4_0, .int .i64 a4_1, .bool a4_2] 29 (0, 0)) (by (with_reducible repeat (first | refine blk_drewN ?_ _ | refine blk_drew ?_ | refine blk_alloc ?_ _)); exact BK332.out) hb); have n11_ := Aside0.mk (blk_below (g := gb333) (o := .cells #[.int .i64 a5_0, .int .i64 a5_1, .bool a5_2] 29 (0, 0)) (by (with_reducible repeat (first | refine blk_drewN ?_ _ | refine blk_drew ?_ | refine blk_alloc ?_ _)); exact BK333.out) hb); have n12_ := Aside0.mk (blk_below (g := gb351) (o := .cells #[.slice Ao42 t343.length co42, .slice Ao48 t346.length co48] 33 (0, 0)) (by (with_reducible repeat (first | refine blk_drewN ?_ _ | refine blk_drew ?_ | refine blk_alloc ?_ _)); exact BK351.out) hb); have n13_ := Aside0.mk (blk_below (g := gb360) (o := .cells #[.slice Ao51 t352.length co51, .slice Ao58 t355.length co58] 33 (0, 0)) (by (with_reducible repeat (first | refine blk_drewN ?_ _ | refine blk_drew ?_ | refine blk_alloc ?_ _)); exact BK360.out) hb); have n14_ := Aside0.mk (blk_below (g := gb366) (o := .cells #[.int .i64 t361, .int .i64 t362, .bool t363] 29 (0, 0)) (by (with_reducible repeat (first | refine blk_drewN ?_ _ | refine blk_drew ?_ | refine blk_alloc ?_ _)); exact BK366.out) hb); have n15_ := Aside0.mk (blk_below (g := gb372) (o := .cells #[.int .i64 t367, .int .i64 t368, .bool t369] 29 (0, 0)) (by (with_reducible repeat (first | refine blk_drewN ?_ _ | refine blk_drew ?_ | refine blk_alloc ?_ _)); exact BK372.out) hb); have n16_ := Aside0.mk (below_step (by repeat (first | (with_reducible first | exact HB.out | apply below_alloc | apply pw_below_drewN | apply below_drew1 | refine below_set ?_ GE330.out | refine below_set ?_ GE331.out | refine below_set ?_ GE332.out | refine below_set ?_ GE333.out | refine below_set ?_ GE351.out | refine below_set ?_ GE360.out | refine below_set ?_ GE366.out | refine below_set ?_ GE372.out) | exact HB.out)) hb); clear HO_352000; clear HO_352001; clear HO_361000; clear HO_361001; clear HO376; clear HO380; clear HO384; clear BK330; clear BK331; clear BK332; clear BK333; clear BK351; clear BK360; clear BK366; clear BK372; clear HB; have HO_352000 := n0_; have HO_352001 := n1_; have HO_361000 := n2_; have HO_361001 := n3_; have HO376 := n4_; have HO380 := n5_; have HO384 := n6_; have HO388 := n7_; have BK330 := n8_; have BK331 := n9_; have BK332 := n10_; have BK333 := n11_; have BK351 := n12_; have BK360 := n13_; have BK366 := n14_; have BK372 := n15_; have HB := n16_; clear n0_ n1_ n2_ n3_ n4_ n5_ n6_ n7_ n8_ n9_ n10_ n11_ n12_ n13_ n14_ n15_ n16_; (try clear hb); (try clear hb2); (try clear hk); (try clear hi); (try clear ho0)))
                            have n0_ := Aside0.mk (Kd.R_drew HO_352000.out)
                            have n1_ := Aside0.mk (Kd.R_drew HO_352001.out)
                            have n2_ := Aside0.mk (Kd.R_drew HO_361000.out)
                            have n3_ := Aside0.mk (Kd.R_drew HO_361001.out)
                            have n4_ := Aside0.mk (Kd.R_drew HO376.out)
                            have n5_ := Aside0.mk (Kd.R_drew HO380.out)
                            have n6_ := Aside0.mk (Kd.R_drew HO384.out)
                            have n7_ := Aside0.mk (Kd.R_drew HO388.out)
                            have n8_ := Aside0.mk (blk_drew BK330.out)
                            have n9_ := Aside0.mk (blk_drew BK331.out)
                            have n10_ := Aside0.mk (blk_drew BK332.out)
                            have n11_ := Aside0.mk (blk_drew BK333.out)
                            have n12_ := Aside0.mk (blk_drew BK351.out)
                            have n13_ := Aside0.mk (blk_drew BK360.out)
                            have n14_ := Aside0.mk (blk_drew BK366.out)
                            have n15_ := Aside0.mk (blk_drew BK372.out)
                            have n16_ := Aside0.mk (below_drew1 HB.out)
                            clear HO_352000
                            clear HO_352001
                            clear HO_361000
                            clear HO_361001
                            clear HO376
                            clear HO380
                            clear HO384
                            clear HO388
                            clear BK330
                            clear BK331
                            clear BK332
                            clear BK333
                            clear BK351
                            clear BK360
                            clear BK366
                            clear BK372
                            clear HB
                            have HO_352000 := n0_
                            have HO_352001 := n1_
                            have HO_361000 := n2_
                            have HO_361001 := n3_
                            have HO376 := n4_
                            have HO380 := n5_
                            have HO384 := n6_
                            have HO388 := n7_
                            have BK330 := n8_
                            have BK331 := n9_
                            have BK332 := n10_
                            have BK333 := n11_
                            have BK351 := n12_
                            have BK360 := n13_
                            have BK366 := n14_
                            have BK372 := n15_
                            have HB := n16_
                            clear n0_ n1_ n2_ n3_ n4_ n5_ n6_ n7_ n8_ n9_ n10_ n11_ n12_ n13_ n14_ n15_ n16_
                            have hcv154 := own_string (P := Try.prog) Try.underlying22 Try.underlying5 Try.underlying9 (Kd.own_of_R HO376.out)
                            have hcv155 := own_string (P := Try.prog) Try.underlying22 Try.underlying5 Try.underlying9 (Kd.own_of_R HO380.out)
                            have hcv156 := own_string (P := Try.prog) Try.underlying22 Try.underlying5 Try.underlying9 (Kd.own_of_R HO384.out)
                            have hcv157 := own_string (P := Try.prog) Try.underlying22 Try.underlying5 Try.underlying9 (Kd.own_of_R HO388.out)
                            refine start_ (n := 51) (S := fun w' => w'.cell? ⟨gb330, 0, none⟩ = some (.slice A2_0 l2_0.length c2_0) ∧ w'.cell? ⟨gb330, 1, none⟩ = some (.slice A2_1 l2_1.length c2_1) ∧ w'.cell? ⟨gb331, 0, none⟩ = some (.slice A3_0 l3_0.length c3_0) ∧ w'.cell? ⟨gb331, 1, none⟩ = some (.slice A3_1 l3_1.length c3_1) ∧ w'.cell? ⟨gb332, 0, none⟩ = some (.int .i64 a4_0) ∧ w'.cell? ⟨gb332, 1, none⟩ = some (.int .i64 a4_1) ∧ w'.cell? ⟨gb332, 2, none⟩ = some (.bool a4_2) ∧ w'.cell? ⟨gb333, 0, none⟩ = some (.int .i64 a5_0) ∧ w'.cell? ⟨gb333, 1, none⟩ = some (.int .i64 a5_1) ∧ w'.cell? ⟨gb333, 2, none⟩ = some (.bool a5_2) ∧ (convert 22 9 v375).run Try.prog w' = .ok (.string (strOfNums t374)) w' ∧ (convert 22 9 v379).run Try.prog w' = .ok (.string (strOfNums t378)) w' ∧ (convert 22 9 v383).run Try.prog w' = .ok (.string (strOfNums t382)) w' ∧ (convert 22 9 v387).run Try.prog w' = .ok (.string (strOfNums t386)) w') (ds := []) #[false, false, false, false, false, false, false, false, false, false, false, false, false, false, false, false, false, false, false, false, false, false, false, false, false, false, false, false, false, false, false, false, false, false, false, false, false, false, false, false, false, false, false, false, false, false, false, false, false, false, false] (by kernel_rfl) rfl rfl ⟨(blk_cell BK330.out 0).trans rfl, (blk_cell BK330.out 1).trans rfl, (blk_cell BK331.out 0).trans rfl, (blk_cell BK331.out 1).trans rfl, (blk_cell BK332.out 0).trans rfl, (blk_cell BK332.out 1).trans rfl, (blk_cell BK332.out 2).trans rfl, (blk_cell BK333.out 0).trans rfl, (blk_cell BK333.out 1).trans rfl, (blk_cell BK333.out 2).trans rfl, own_string (P := Try.prog) Try.underlying22 Try.underlying5 Try.underlying9 (Kd.own_of_R HO376.out), own_string (P := Try.prog) Try.underlying22 Try.underlying5 Try.underlying9 (Kd.own_of_R HO380.out), own_string (P := Try.prog) Try.underlying22 Try.underlying5 Try.underlying9 (Kd.own_of_R HO384.out), own_string (P := Try.prog) Try.underlying22 Try.underlying5 Try.underlying9 (Kd.own_of_R HO388.out)⟩ (fun hHeld => ?_); refine with_tabW avocetlaw04_TypesIs.tab16 avocetlaw04_TypesIs.bits16 (fun HT_ HW_ => ?_)
                            generalize w152.drew = w153 at HO_352000 HO_352001 HO_361000 HO_361001 HO376 HO380 HO384 HO388 BK330 BK331 BK332 BK333 BK351 BK360 BK366 BK372 HB hHeld ⊢
                            refine pure_ (i := 0) (N := some 161) (v := ?_) (a' := ?_) #[true, false, false, false, false, false, false, false, false, false, false, false, false, false, false, false, false, false, false, false, false, false, false, false, false, false, false, false, false, false, false, false, false, false, false, false, false, false, false, false, false, false, false, false, false, false, false, false, false, false, false] rfl rfl (any_of HT_.out (by kernel_rfl)) (fun _ _ _ h => h) (Or.inl ⟨by rfl, ?_⟩) ?_ ?_
                            rotate_left
                            · intro w'
                              go_simp
                              with_reducible rfl
                            rotate_left
                            · simp only [Act.put, List.setIfInBounds_toArray, List.set_cons_zero, List.set_cons_succ, i64_w, i32_w]
                              rfl
                            refine pure_ (i := 1) (N := some 162) (v := ?_) (a' := ?_) #[true, true, false, false, false, false, false, false, false, false, false, false, false, false, false, false, false, false, false, false, false, false, false, false, false, false, false, false, false, false, false, false, false, false, false, false, false, false, false, false, false, false, false, false, false, false, false, false, false, false, false] rfl rfl (any_of HT_.out (by kernel_rfl)) (fun _ _ _ h => h) (Or.inl ⟨by rfl, ?_⟩) ?_ ?_
                            rotate_left
                            · intro w'
                              go_simp
                              with_reducible rfl
                            rotate_left
                            · simp only [Act.put, List.setIfInBounds_toArray, List.set_cons_zero, List.set_cons_succ, i64_w, i32_w]
                              rfl
                            refine pure_ (i := 2) (N := some 163) (v := ?_) (a' := ?_) #[true, true, true, false, false, false, false, false, false, false, false, false, false, false, false, false, false, false, false, false, false, false, false, false, false, false, false, false, false, false, false, false, false, false, false, false, false, false, false, false, false, false, false, false, false, false, false, false, false, false, false] rfl rfl (any_of HT_.out (by kernel_rfl)) (fun _ _ _ h => h) (Or.inl ⟨by rfl, ?_⟩) ?_ ?_
                            rotate_left
                            · intro w'
                              go_simp
                              with_reducible rfl
                            rotate_left
                            · simp only [Act.put, List.setIfInBounds_toArray, List.set_cons_zero, List.set_cons_succ, i64_w, i32_w]
                              rfl
                            refine pure_ (i := 4) (N := some 165) (v := ?_) (a' := ?_) #[true, true, true, false, true, false, false, false, false, false, false, false, false, false, false, false, false, false, false, false, false, false, false, false, false, false, false, false, false, false, false, false, false, false, false, false, false, false, false, false, false, false, false, false, false, false, false, false, false, false, false] rfl rfl (any_of HT_.out (by kernel_rfl)) (fun _ _ _ h => h) (Or.inl ⟨by rfl, ?_⟩) ?_ ?_
                            rotate_left
                            · intro w'
                              go_simp
                              with_reducible rfl
                            rotate_left
                            · simp only [Act.put, List.setIfInBounds_toArray, List.set_cons_zero, List.set_cons_succ, i64_w, i32_w]
                              rfl
                            refine take_ (i := 3) (N := some 164) (v := ?_) (a' := ?_) #[true, true, true, true, true, false, false, false, false, false, false, false, false, false, false, false, false, false, false, false, false, false, false, false, false, false, false, false, false, false, false, false, false, false, false, false, false, false, false, false, false, false, false, false, false, false, false, false, false, false, false] rfl rfl (take_ofW HT_.out HW_.out (by kernel_rfl)) (fun _ _ _ h => h) (Or.inl ⟨by rfl, ?_⟩) hHeld ?_ ?_
                            rotate_left
                            · rintro w' ⟨s0, s1, s2, s3, s4, s5, s6, s7, s8, s9, s10, s11, s12, s13⟩
                              (try simp only [List.length_take, List.length_drop] at s0 s1 s2 s3 s4 s5 s6 s7 s8 s9 s10 s11 s12 s13)
                              go_simp
                              with_reducible rfl
                            rotate_left
                            · simp only [Act.put, List.setIfInBounds_toArray, List.set_cons_zero, List.set_cons_succ, i64_w, i32_w]
                              rfl
                            refine take_ (i := 5) (N := some 166) (v := ?_) (a' := ?_) #[true, true, true, true, true, true, false, false, false, false, false, false, false, false, false, false, false, false, false, false, false, false, false, false, false, false, false, false, false, false, false, false, false, false, false, false, false, false, false, false, false, false, false, false, false, false, false, false, false, false, false] rfl rfl (take_ofW HT_.out HW_.out (by kernel_rfl)) (fun _ _ _ h => h) (Or.inl ⟨by rfl, ?_⟩) hHeld ?_ ?_
                            rotate_left
                            · rintro w' ⟨s0, s1, s2, s3, s4, s5, s6, s7, s8, s9, s10, s11, s12, s13⟩
                              (try simp only [List.length_take, List.length_drop] at s0 s1 s2 s3 s4 s5 s6 s7 s8 s9 s10 s11 s12 s13)
                              go_simp
                              with_reducible rfl
                            rotate_left
                            · simp only [Act.put, List.setIfInBounds_toArray, List.set_cons_zero, List.set_cons_succ, i64_w, i32_w]
                              rfl
                            refine pure_ (i := 6) (N := some 167) (v := ?_) (a' := ?_) #[true, true, true, true, true, true, true, false, false, false, false, false, false, false, false, false, false, false, false, false, false, false, false, false, false, false, false, false, false, false, false, false, false, false, false, false, false, false, false, false, false, false, false, false, false, false, false, false, false, false, false] rfl rfl (any_of HT_.out (by kernel_rfl)) (fun _ _ _ h => h) (Or.inl ⟨by rfl, ?_⟩) ?_ ?_
                            rotate_left
                            · intro w'
                              go_simp
                              with_reducible rfl
                            rotate_left
                            · simp only [Act.put, List.setIfInBounds_toArray, List.set_cons_zero, List.set_cons_succ, i64_w, i32_w]
                              rfl
                            refine pure_ (i := 7) (N := some 168) (v := ?_) (a' := ?_) #[true, true, true, true, true, true, true, true, false, false, false, false, false, false, false, false, false, false, false, false, false, false, false, false, false, false, false, false, false, false, false, false, false, false, false, false, false, false, false, false, false, false, false, false, false, false, false, false, false, false, false] rfl rfl (any_of HT_.out (by kernel_rfl)) (fun _ _ _ h => h) (Or.inl ⟨by rfl, ?_⟩) ?_ ?_
                            rotate_left
                            · intro w'
                              go_simp
                              with_reducible rfl
                            rotate_left
                            · simp only [Act.put, List.setIfInBounds_toArray, List.set_cons_zero, List.set_cons_succ, i64_w, i32_w]
                              rfl
                            refine pure_ (i := 8) (N := some 169) (v := ?_) (a' := ?_) #[true, true, true, true, true, true, true, true, true, false, false, false, false, false, false, false, false, false, false, false, false, false, false, false, false, false, false, false, false, false, false, false, false, false, false, false, false, false, false, false, false, false, false, false, false, false, false, false, false, false, false] rfl rfl (any_of HT_.out (by kernel_rfl)) (fun _ _ _ h => h) (Or.inl ⟨by rfl, ?_⟩) ?_ ?_
                            rotate_left
                            · intro w'
                              go_simp
                              with_reducible rfl
                            rotate_left
                            · simp only [Act.put, List.setIfInBounds_toArray, List.set_cons_zero, List.set_cons_succ, i64_w, i32_w]
                              rfl
                            refine pure_ (i := 9) (N := some 170) (v := ?_) (a' := ?_) #[true, true, true, true, true, true, true, true, true, true, false, false, false, false, false, false, false, false, false, false, false, false, false, false, false, false, false, false, false, false, false, false, false, false, false, false, false, false, false, false, false, false, false, false, false, false, false, false, false, false, false] rfl rfl (any_of HT_.out (by kernel_rfl)) (fun _ _ _ h => h) (Or.inl ⟨by rfl, ?_⟩) ?_ ?_
                            rotate_left
                            · intro w'
                              go_simp
                              with_reducible rfl
                            rotate_left
                            · simp only [Act.put, List.setIfInBounds_toArray, List.set_cons_zero, List.set_cons_succ, i64_w, i32_w]
                              rfl
                            refine pure_ (i := 10) (N := some 171) (v := ?_) (a' := ?_) #[true, true, true, true, true, true, true, true, true, true, true, false, false, false, false, false, false, false, false, false, false, false, false, false, false, false, false, false, false, false, false, false, false, false, false, false, false, false, false, false, false, false, false, false, false, false, false, false, false, false, false] rfl rfl (any_of HT_.out (by kernel_rfl)) (fun _ _ _ h => h) (Or.inl ⟨by rfl, ?_⟩) ?_ ?_
                            rotate_left
                            · intro w'
                              go_simp
                              with_reducible rfl
                            rotate_left
                            · simp only [Act.put, List.setIfInBounds_toArray, List.set_cons_zero, List.set_cons_succ, i64_w, i32_w]
                              rfl
                            refine pure_ (i := 11) (N := some 172) (v := ?_) (a' := ?_) #[true, true, true, true, true, true, true, true, true, true, true, true, false, false, false, false, false, false, false, false, false, false, false, false, false, false, false, false, false, false, false, false, false, false, false, false, false, false, false, false, false, false, false, false, false, false, false, false, false, false, false] rfl rfl (any_of HT_.out (by kernel_rfl)) (fun _ _ _ h => h) (Or.inl ⟨by rfl, ?_⟩) ?_ ?_
                            rotate_left
                            · intro w'
                              go_simp
                              with_reducible rfl
                            rotate_left
                            · simp only [Act.put, List.setIfInBounds_toArray, List.set_cons_zero, List.set_cons_succ, i64_w, i32_w]
                              rfl
                            refine pure_ (i := 12) (N := some 173) (v := ?_) (a' := ?_) #[true, true, true, true, true, true, true, true, true, true, true, true, true, false, false, false, false, false, false, false, false, false, false, false, false, false, false, false, false, false, false, false, false, false, false, false, false, false, false, false, false, false, false, false, false, false, false, false, false, false, false] rfl rfl (any_of HT_.out (by kernel_rfl)) (fun _ _ _ h => h) (Or.inl ⟨by rfl, ?_⟩) ?_ ?_
                            rotate_left
                            · intro w'
                              go_simp
                              with_reducible rfl
                            rotate_left
                            · simp only [Act.put, List.setIfInBounds_toArray, List.set_cons_zero, List.set_cons_succ, i64_w, i32_w]
                              rfl
                            refine pure_ (i := 13) (N := some 174) (v := ?_) (a' := ?_) #[true, true, true, true, true, true, true, true, true, true, true, true, true, true, false, false, false, false, false, false, false, false, false, false, false, false, false, false, false, false, false, false, false, false, false, false, false, false, false, false, false, false, false, false, false, false, false, false, false, false, false] rfl rfl (any_of HT_.out (by kernel_rfl)) (fun _ _ _ h => h) (Or.inl ⟨by rfl, ?_⟩) ?_ ?_
                            rotate_left
                            · intro w'
                              go_simp
                              with_reducible rfl
                            rotate_left
                            · simp only [Act.put, List.setIfInBounds_toArray, List.set_cons_zero, List.set_cons_succ, i64_w, i32_w]
                              rfl
                            refine pure_ (i := 14) (N := some 175) (v := ?_) (a' := ?_) #[true, true, true, true, true, true, true, true, true, true, true, true, true, true, true, false, false, false, false, false, false, false, false, false, false, false, false, false, false, false, false, false, false, false, false, false, false, false, false, false, false, false, false, false, false, false, false, false, false, false, false] rfl rfl (any_of HT_.out (by kernel_rfl)) (fun _ _ _ h => h) (Or.inl ⟨by rfl, ?_⟩) ?_ ?_
                            rotate_left
                            · intro w'
                              go_simp
                              with_reducible rfl
                            rotate_left
                            · simp only [Act.put, List.setIfInBounds_toArray, List.set_cons_zero, List.set_cons_succ, i64_w, i32_w]
                              rfl
                            refine pure_ (i := 16) (N := some 177) (v := ?_) (a' := ?_) #[true, true, true, true, true, true, true, true, true, true, true, true, true, true, true, false, true, false, false, false, false, false, false, false, false, false, false, false, false, false, false, false, false, false, false, false, false, false, false, false, false, false, false, false, false, false, false, false, false, false, false] rfl rfl (any_of HT_.out (by kernel_rfl)) (fun _ _ _ h => h) (Or.inl ⟨by rfl, ?_⟩) ?_ ?_
                            rotate_left
                            · intro w'
                              go_simp
                              with_reducible rfl
                            rotate_left
                            · simp only [Act.put, List.setIfInBounds_toArray, List.set_cons_zero, List.set_cons_succ, i64_w, i32_w]
                              rfl
                            refine take_ (i := 15) (N := some 176) (v := ?_) (a' := ?_) #[true, true, true, true, true, true, true, true, true, true, true, true, true, true, true, true, true, false, false, false, false, false, false, false, false, false, false, false, false, false, false, false, false, false, false, false, false, false, false, false, false, false, false, false, false, false, false, false, false, false, false] rfl rfl (take_ofW HT_.out HW_.out (by kernel_rfl)) (fun _ _ _ h => h) (Or.inl ⟨by rfl, ?_⟩) hHeld ?_ ?_
                            rotate_left
                            · rintro w' ⟨s0, s1, s2, s3, s4, s5, s6, s7, s8, s9, s10, s11, s12, s13⟩
                              (try simp only [List.length_take, List.length_drop] at s0 s1 s2 s3 s4 s5 s6 s7 s8 s9 s10 s11 s12 s13)
                              go_simp
                              with_reducible rfl
                            rotate_left
                            · simp only [Act.put, List.setIfInBounds_toArray, List.set_cons_zero, List.set_cons_succ, i64_w, i32_w]
                              rfl
                            refine take_ (i := 17) (N := some 178) (v := ?_) (a' := ?_) #[true, true, true, true, true, true, true, true, true, true, true, true, true, true, true, true, true, true, false, false, false, false, false, false, false, false, false, false, false, false, false, false, false, false, false, false, false, false, false, false, false, false, false, false, false, false, false, false, false, false, false] rfl rfl (take_ofW HT_.out HW_.out (by kernel_rfl)) (fun _ _ _ h => h) (Or.inl ⟨by rfl, ?_⟩) hHeld ?_ ?_
                            rotate_left
                            · rintro w' ⟨s0, s1, s2, s3, s4, s5, s6, s7, s8, s9, s10, s11, s12, s13⟩
                              (try simp only [List.length_take, List.length_drop] at s0 s1 s2 s3 s4 s5 s6 s7 s8 s9 s10 s11 s12 s13)
                              go_simp
                              with_reducible rfl
                            rotate_left
                            · simp only [Act.put, List.setIfInBounds_toArray, List.set_cons_zero, List.set_cons_succ, i64_w, i32_w]
                              rfl
                            refine pure_ (i := 18) (N := some 179) (v := ?_) (a' := ?_) #[true, true, true, true, true, true, true, true, true, true, true, true, true, true, true, true, true, true, true, false, false, false, false, false, false, false, false, false, false, false, false, false, false, false, false, false, false, false, false, false, false, false, false, false, false, false, false, false, false, false, false] rfl rfl (any_of HT_.out (by kernel_rfl)) (fun _ _ _ h => h) (Or.inl ⟨by rfl, ?_⟩) ?_ ?_
                            rotate_left
                            · intro w'
                              go_simp
                              with_reducible rfl
                            rotate_left
                            · simp only [Act.put, List.setIfInBounds_toArray, List.set_cons_zero, List.set_cons_succ, i64_w, i32_w]
                              rfl
                            refine pure_ (i := 19) (N := some 180) (v := ?_) (a' := ?_) #[true, true, true, true, true, true, true, true, true, true, true, true, true, true, true, true, true, true, true, true, false, false, false, false, false, false, false, false, false, false, false, false, false, false, false, false, false, false, false, false, false, false, false, false, false, false, false, false, false, false, false] rfl rfl (any_of HT_.out (by kernel_rfl)) (fun _ _ _ h => h) (Or.inl ⟨by rfl, ?_⟩) ?_ ?_
                            rotate_left
                            · intro w'
                              go_simp
                              with_reducible rfl
                            rotate_left
                            · simp only [Act.put, List.setIfInBounds_toArray, List.set_cons_zero, List.set_cons_succ, i64_w, i32_w]
                              rfl
                            refine pure_ (i := 20) (N := some 181) (v := ?_) (a' := ?_) #[true, true, true, true, true, true, true, true, true, true, true, true, true, true, true, true, true, true, true, true, true, false, false, false, false, false, false, false, false, false, false, false, false, false, false, false, false, false, false, false, false, false, false, false, false, false, false, false, false, false, false] rfl rfl (any_of HT_.out (by kernel_rfl)) (fun _ _ _ h => h) (Or.inl ⟨by rfl, ?_⟩) ?_ ?_
                            rotate_left
                            · intro w'
                              go_simp
                              with_reducible rfl
                            rotate_left
                            · simp only [Act.put, List.setIfInBounds_toArray, List.set_cons_zero, List.set_cons_succ, i64_w, i32_w]
                              rfl
                            refine pure_ (i := 21) (N := some 182) (v := ?_) (a' := ?_) #[true, true, true, true, true, true, true, true, true, true, true, true, true, true, true, true, true, true, true, true, true, true, false, false, false, false, false, false, false, false, false, false, false, false, false, false, false, false, false, false, false, false, false, false, false, false, false, false, false, false, false] rfl rfl (any_of HT_.out (by kernel_rfl)) (fun _ _ _ h => h) (Or.inl ⟨by rfl, ?_⟩) ?_ ?_
                            rotate_left
                            · intro w'
                              go_simp
                              with_reducible rfl
                            rotate_left
                            · simp only [Act.put, List.setIfInBounds_toArray, List.set_cons_zero, List.set_cons_succ, i64_w, i32_w]
                              rfl
                            refine pure_ (i := 22) (N := some 183) (v := ?_) (a' := ?_) #[true, true, true, true, true, true, true, true, true, true, true, true, true, true, true, true, true, true, true, true, true, true, true, false, false, false, false, false, false, false, false, false, false, false, false, false, false, false, false, false, false, false, false, false, false, false, false, false, false, false, false] rfl rfl (any_of HT_.out (by kernel_rfl)) (fun _ _ _ h => h) (Or.inl ⟨by rfl, ?_⟩) ?_ ?_
                            rotate_left
                            · intro w'
                              go_simp
                              with_reducible rfl
                            rotate_left
                            · simp only [Act.put, List.setIfInBounds_toArray, List.set_cons_zero, List.set_cons_succ, i64_w, i32_w]
                              rfl
                            refine pure_ (i := 23) (N := some 184) (v := ?_) (a' := ?_) #[true, true, true, true, true, true, true, true, true, true, true, true, true, true, true, true, true, true, true, true, true, true, true, true, false, false, false, false, false, false, false, false, false, false, false, false, false, false, false, false, false, false, false, false, false, false, false, false, false, false, false] rfl rfl (any_of HT_.out (by kernel_rfl)) (fun _ _ _ h => h) (Or.inl ⟨by rfl, ?_⟩) ?_ ?_
                            rotate_left
                            · intro w'
                              go_simp
                              with_reducible rfl
                            rotate_left
                            · simp only [Act.put, List.setIfInBounds_toArray, List.set_cons_zero, List.set_cons_succ, i64_w, i32_w]
                              rfl
                            refine pure_ (i := 24) (N := some 185) (v := ?_) (a' := ?_) #[true, true, true, true, true, true, true, true, true, true, true, true, true, true, true, true, true, true, true, true, true, true, true, true, true, false, false, false, false, false, false, false, false, false, false, false, false, false, false, false, false, false, false, false, false, false, false, false, false, false, false] rfl rfl (any_of HT_.out (by kernel_rfl)) (fun _ _ _ h => h) (Or.inl ⟨by rfl, ?_⟩) ?_ ?_
                            rotate_left
                            · intro w'
                              go_simp
                              with_reducible rfl
                            rotate_left
                            · simp only [Act.put, List.setIfInBounds_toArray, List.set_cons_zero, List.set_cons_succ, i64_w, i32_w]
                              rfl
                            refine pure_ (i := 25) (N := some 186) (v := ?_) (a' := ?_) #[true, true, true, true, true, true, true, true, true, true, true, true, true, true, true, true, true, true, true, true, true, true, true, true, true, true, false, false, false, false, false, false, false, false, false, false, false, false, false, false, false, false, false, false, false, false, false, false, false, false, false] rfl rfl (any_of HT_.out (by kernel_rfl)) (fun _ _ _ h => h) (Or.inl ⟨by rfl, ?_⟩) ?_ ?_
                            rotate_left
                            · intro w'
                              go_simp
                              with_reducible rfl
                            rotate_left
                            · simp only [Act.put, List.setIfInBounds_toArray, List.set_cons_zero, List.set_cons_succ, i64_w, i32_w]
                              rfl
                            refine take_ (i := 26) (N := some 187) (v := ?_) (a' := ?_) #[true, true, true, true, true, true, true, true, true, true, true, true, true, true, true, true, true, true, true, true, true, true, true, true, true, true, true, false, false, false, false, false, false, false, false, false, false, false, false, false, false, false, false, false, false, false, false, false, false, false, false] rfl rfl (take_ofW HT_.out HW_.out (by kernel_rfl)) (fun _ _ _ h => h) (Or.inl ⟨by rfl, ?_⟩) hHeld ?_ ?_
                            rotate_left
                            · rintro w' ⟨s0, s1, s2, s3, s4, s5, s6, s7, s8, s9, s10, s11, s12, s13⟩
                              (try simp only [List.length_take, List.length_drop] at s0 s1 s2 s3 s4 s5 s6 s7 s8 s9 s10 s11 s12 s13)
                              go_simp
                              with_reducible rfl
                            rotate_left
                            · simp only [Act.put, List.setIfInBounds_toArray, List.set_cons_zero, List.set_cons_succ, i64_w, i32_w]
                              rfl
                            refine take_ (i := 28) (N := some 189) (v := ?_) (a' := ?_) #[true, true, true, true, true, true, true, true, true, true, true, true, true, true, true, true, true, true, true, true, true, true, true, true, true, true, true, false, true, false, false, false, false, false, false, false, false, false, false, false, false, false, false, false, false, false, false, false, false, false, false] rfl rfl (take_ofW HT_.out HW_.out (by kernel_rfl)) (fun _ _ _ h => h) (Or.inl ⟨by rfl, ?_⟩) hHeld ?_ ?_
                            rotate_left
                            · rintro w' ⟨s0, s1, s2, s3, s4, s5, s6, s7, s8, s9, s10, s11, s12, s13⟩
                              (try simp only [List.length_take, List.length_drop] at s0 s1 s2 s3 s4 s5 s6 s7 s8 s9 s10 s11 s12 s13)
                              go_simp
                              with_reducible rfl
                            rotate_left
                            · simp only [Act.put, List.setIfInBounds_toArray, List.set_cons_zero, List.set_cons_succ, i64_w, i32_w]
                              rfl
                            refine one_ (i := 27) (N := some 188) #[true, true, true, true, true, true, true, true, true, true, true, true, true, true, true, true, true, true, true, true, true, true, true, true, true, true, true, true, true, false, false, false, false, false, false, false, false, false, false, false, false, false, false, false, false, false, false, false, false, false, false] rfl rfl (one_of HT_.out (by kernel_rfl)) (by decide) (fun K hK => ?_)
                            refine goes_ Try.func14 (by kernel_rfl) rfl #[.agg #[.slice A2_0 l2_0.length c2_0, .slice A2_1 l2_1.length c2_1]] (by rfl) rfl rfl (by (try simp only [List.map_toArray, List.map_cons, List.map_nil]); first | done | rfl | (simp only [List.length_drop, List.length_take]; rfl)) ?_
                            with_reducible refine (types_Sane.calls _ _ l2_0 _ _ l2_1 t390 _ ?side1 ?side2 ?side3 ?side4 A124.out).mono ?_
                            (case side1 => repeat (first | exact (Kd.C_below HR2_0.out HB.out) | (with_reducible refine Kd.C_alloc ?_ _) | (with_reducible refine Kd.C_drewN ?_ _) | (with_reducible refine Kd.C_drew ?_)))
                            (case side2 => exact HC2_0.out)
                            (case side3 => repeat (first | exact (Kd.C_below HR2_1.out HB.out) | (with_reducible refine Kd.C_alloc ?_ _) | (with_reducible refine Kd.C_drewN ?_ _) | (with_reducible refine Kd.C_drew ?_)))
                            (case side4 => exact HC2_1.out)
                            rintro e w159 ⟨rfl, hb⟩
                            refine ⟨_, rfl, ?_⟩
                            have n0_ := Aside0.mk (Kd.R_below (by (with_reducible repeat (first | apply Kd.R_alloc | apply Kd.R_drewN | apply Kd.R_drew)); exact HO_352000.out) hb)
                            have n1_ := Aside0.mk (Kd.R_below (by (with_reducible repeat (first | apply Kd.R_alloc | apply Kd.R_drewN | apply Kd.R_drew)); exact HO_352001.out) hb)
                            have n2_ := Aside0.mk (Kd.R_below (by (with_reducible repeat (first | apply Kd.R_alloc | apply Kd.R_drewN | apply Kd.R_drew)); exact HO_361000.out) hb)
                            have n3_ := Aside0.mk (Kd.R_below (by (with_reducible repeat (first | apply Kd.R_alloc | apply Kd.R_drewN | apply Kd.R_drew)); exact HO_361001.out) hb)
                            have n4_ := Aside0.mk (Kd.R_below (by (with_reducible repeat (first | apply Kd.R_alloc | apply Kd.R_drewN | apply Kd.R_drew)); exact HO376.out) hb)
                            have n5_ := Aside0.mk (Kd.R_below (by (with_reducible repeat (first | apply Kd.R_alloc | apply Kd.R_drewN | apply Kd.R_drew)); exact HO380.out) hb)
                            have n6_ := Aside0.mk (Kd.R_below (by (with_reducible repeat (first | apply Kd.R_alloc | apply Kd.R_drewN | apply Kd.R_drew)); exact HO384.out) hb)
                            have n7_ := Aside0.mk (Kd.R_below (by (with_reducible repeat (first | apply Kd.R_alloc | apply Kd.R_drewN | apply Kd.R_drew)); exact HO388.out) hb)
                            have n8_ := Aside0.mk (blk_below (g := gb330) (o := .cells #[.slice A2_0 l2_0.length c2_0, .slice A2_1 l2_1.length c2_1] 33 (0, 0)) (by (with_reducible repeat (first | refine blk_drewN ?_ _ | refine blk_drew ?_ | refine blk_alloc ?_ _)); exact BK330.out) hb)
                            have n9_ := Aside0.mk (blk_below (g := gb331) (o := .cells #[.slice A3_0 l3_0.length c3_0, .slice A3_1 l3_1.length c3_1] 33 (0, 0)) (by (with_reducible repeat (first | refine blk_drewN ?_ _ | refine blk_drew ?_ | refine blk_alloc ?_ _)); exact BK331.out) hb)
                            have n10_ := Aside0.mk (blk_below (g := gb332) (o := .cells #[.int .i64 a4_0, .int .i64 a4_1, .bool a4_2] 29 (0, 0)) (by (with_reducible repeat (first | refine blk_drewN ?_ _ | refine blk_drew ?_ | refine blk_alloc ?_ _)); exact BK332.out) hb)
                            have n11_ := Aside0.mk (blk_below (g := gb333) (o := .cells #[.int .i64 a5_0, .int .i64 a5_1, .bool a5_2] 29 (0, 0)) (by (with_reducible repeat (first | refine blk_drewN ?_ _ | refine blk_drew ?_ | refine blk_alloc ?_ _)); exact BK333.out) hb)
                            have n12_ := Aside0.mk (blk_below (g := gb351) (o := .cells #[.slice Ao42 t343.length co42, .slice Ao48 t346.length co48] 33 (0, 0)) (by (with_reducible repeat (first | refine blk_drewN ?_ _ | refine blk_drew ?_ | refine blk_alloc ?_ _)); exact BK351.out) hb)
                            have n13_ := Aside0.mk (blk_below (g := gb360) (o := .cells #[.slice Ao51 t352.length co51, .slice Ao58 t355.length co58] 33 (0, 0)) (by (with_reducible repeat (first | refine blk_drewN ?_ _ | refine blk_drew ?_ | refine blk_alloc ?_ _)); exact BK360.out) hb)
                            have n14_ := Aside0.mk (blk_below (g := gb366) (o := .cells #[.int .i64 t361, .int .i64 t362, .bool t363] 29 (0, 0)) (by (with_reducible repeat (first | refine blk_drewN ?_ _ | refine blk_drew ?_ | refine blk_alloc ?_ _)); exact BK366.out) hb)
                            have n15_ := Aside0.mk (blk_below (g := gb372) (o := .cells #[.int .i64 t367, .int .i64 t368, .bool t369] 29 (0, 0)) (by (with_reducible repeat (first | refine blk_drewN ?_ _ | refine blk_drew ?_ | refine blk_alloc ?_ _)); exact BK372.out) hb)
                            have n16_ := Aside0.mk (below_step (by repeat (first | (with_reducible first | exact HB.out | apply below_alloc | apply pw_below_drewN | apply below_drew1 | refine below_set ?_ GE330.out | refine below_set ?_ GE331.out | refine below_set ?_ GE332.out | refine below_set ?_ GE333.out | refine below_set ?_ GE351.out | refine below_set ?_ GE360.out | refine below_set ?_ GE366.out | refine below_set ?_ GE372.out) | exact HB.out)) hb)
                            clear HO_352000
                            clear HO_352001
                            clear HO_361000
                            clear HO_361001
                            clear HO376
                            clear HO380
                            clear HO384
                            clear HO388
                            clear BK330
                            clear BK331
                            clear BK332
                            clear BK333
                            clear BK351
                            clear BK360
                            clear BK366
                            clear BK372
                            clear HB
                            have HO_352000 := n0_
                            have HO_352001 := n1_
                            have HO_361000 := n2_
                            have HO_361001 := n3_
                            have HO376 := n4_
                            have HO380 := n5_
                            have HO384 := n6_
                            have HO388 := n7_
                            have BK330 := n8_
                            have BK331 := n9_
                            have BK332 := n10_
                            have BK333 := n11_
                            have BK351 := n12_
                            have BK360 := n13_
                            have BK366 := n14_
                            have BK372 := n15_
                            have HB := n16_
                            clear n0_ n1_ n2_ n3_ n4_ n5_ n6_ n7_ n8_ n9_ n10_ n11_ n12_ n13_ n14_ n15_ n16_
                            (try clear hb)
                            (try clear hb2)
                            (try clear hk)
                            (try clear hi)
                            refine hK.out _ _ ⟨(blk_cell BK330.out 0).trans rfl, (blk_cell BK330.out 1).trans rfl, (blk_cell BK331.out 0).trans rfl, (blk_cell BK331.out 1).trans rfl, (blk_cell BK332.out 0).trans rfl, (blk_cell BK332.out 1).trans rfl, (blk_cell BK332.out 2).trans rfl, (blk_cell BK333.out 0).trans rfl, (blk_cell BK333.out 1).trans rfl, (blk_cell BK333.out 2).trans rfl, own_string (P := Try.prog) Try.underlying22 Try.underlying5 Try.underlying9 (Kd.own_of_R HO376.out), own_string (P := Try.prog) Try.underlying22 Try.underlying5 Try.underlying9 (Kd.own_of_R HO380.out), own_string (P := Try.prog) Try.underlying22 Try.underlying5 Try.underlying9 (Kd.own_of_R HO384.out), own_string (P := Try.prog) Try.underlying22 Try.underlying5 Try.underlying9 (Kd.own_of_R HO388.out)⟩ (fun hHeld => ?_)
                            clear hK K
                            refine norm_ (a' := ?_) ?_ ?_
                            rotate_left
                            · show Act.put _ (some 188) _ = _
                              simp only [Act.put, List.setIfInBounds_toArray, List.set_cons_zero, List.set_cons_succ, i64_w, i32_w]
                              rfl
                            refine one_ (i := 29) (N := some 190) #[true, true, true, true, true, true, true, true, true, true, true, true, true, true, true, true, true, true, true, true, true, true, true, true, true, true, true, true, true, true, false, false, false, false, false, false, false, false, false, false, false, false, false, false, false, false, false, false, false, false, false] rfl rfl (one_of HT_.out (by kernel_rfl)) (by decide) (fun K hK => ?_)
                            refine goes_ Try.func25 (by kernel_rfl) rfl #[.agg #[.slice A2_0 l2_0.length c2_0, .slice A2_1 l2_1.length c2_1]] (by rfl) rfl rfl (by (try simp only [List.map_toArray, List.map_cons, List.map_nil]); first | done | rfl | (simp only [List.length_drop, List.length_take]; rfl)) ?_
                            with_reducible refine (avocetref04_Sane.calls kj38 _ _ l2_0 _ _ l2_1 t391 _ ?side1 ?side2 ?side3 ?side4 A125.out).mono ?_
                            (case side1 => repeat (first | exact (Kd.C_below HR2_0.out HB.out) | (with_reducible refine Kd.C_alloc ?_ _) | (with_reducible refine Kd.C_drewN ?_ _) | (with_reducible refine Kd.C_drew ?_)))
                            (case side2 => exact HC2_0.out)
                            (case side3 => repeat (first | exact (Kd.C_below HR2_1.out HB.out) | (with_reducible refine Kd.C_alloc ?_ _) | (with_reducible refine Kd.C_drewN ?_ _) | (with_reducible refine Kd.C_drew ?_)))
                            (case side4 => exact HC2_1.out)
                            rintro e w160 ⟨rfl, hb⟩
                            refine ⟨_, rfl, ?_⟩
                            have n0_ := Aside0.mk (Kd.R_below (by (with_reducible repeat (first | apply Kd.R_alloc | apply Kd.R_drewN | apply Kd.R_drew)); exact HO_352000.out) hb)
                            have n1_ := Aside0.mk (Kd.R_below (by (with_reducible repeat (first | apply Kd.R_alloc | apply Kd.R_drewN | apply Kd.R_drew)); exact HO_352001.out) hb)
                            have n2_ := Aside0.mk (Kd.R_below (by (with_reducible repeat (first | apply Kd.R_alloc | apply Kd.R_drewN | apply Kd.R_drew)); exact HO_361000.out) hb)
                            have n3_ := Aside0.mk (Kd.R_below (by (with_reducible repeat (first | apply Kd.R_alloc | apply Kd.R_drewN | apply Kd.R_drew)); exact HO_361001.out) hb)
                            have n4_ := Aside0.mk (Kd.R_below (by (with_reducible repeat (first | apply Kd.R_alloc | apply Kd.R_drewN | apply Kd.R_drew)); exact HO376.out) hb)
                            have n5_ := Aside0.mk (Kd.R_below (by (with_reducible repeat (first | apply Kd.R_alloc | apply Kd.R_drewN | apply Kd.R_drew)); exact HO380.out) hb)
                            have n6_ := Aside0.mk (Kd.R_below (by (with_reducible repeat (first | apply Kd.R_alloc | apply Kd.R_drewN | apply Kd.R_drew)); exact HO384.out) hb)
                            have n7_ := Aside0.mk (Kd.R_below (by (with_reducible repeat (first | apply Kd.R_alloc | apply Kd.R_drewN | apply Kd.R_drew)); exact HO388.out) hb)
                            have n8_ := Aside0.mk (blk_below (g := gb330) (o := .cells #[.slice A2_0 l2_0.length c2_0, .slice A2_1 l2_1.length c2_1] 33 (0, 0)) (by (with_reducible repeat (first | refine blk_drewN ?_ _ | refine blk_drew ?_ | refine blk_alloc ?_ _)); exact BK330.out) hb)
                            have n9_ := Aside0.mk (blk_below (g := gb331) (o := .cells #[.slice A3_0 l3_0.length c3_0, .slice A3_1 l3_1.length c3_1] 33 (0, 0)) (by (with_reducible repeat (first | refine blk_drewN ?_ _ | refine blk_drew ?_ | refine blk_alloc ?_ _)); exact BK331.out) hb)
                            have n10_ := Aside0.mk (blk_below (g := gb332) (o := .cells #[.int .i64 a4_0, .int .i64 a4_1, .bool a4_2] 29 (0, 0)) (by (with_reducible repeat (first | refine blk_drewN ?_ _ | refine blk_drew ?_ | refine blk_alloc ?_ _)); exact BK332.out) hb)
                            have n11_ := Aside0.mk (blk_below (g := gb333) (o := .cells #[.int .i64 a5_0, .int .i64 a5_1, .bool a5_2] 29 (0, 0)) (by (with_reducible repeat (first | refine blk_drewN ?_ _ | refine blk_drew ?_ | refine blk_alloc ?_ _)); exact BK333.out) hb)
                            have n12_ := Aside0.mk (blk_below (g := gb351) (o := .cells #[.slice Ao42 t343.length co42, .slice Ao48 t346.length co48] 33 (0, 0)) (by (with_reducible repeat (first | refine blk_drewN ?_ _ | refine blk_drew ?_ | refine blk_alloc ?_ _)); exact BK351.out) hb)
                            have n13_ := Aside0.mk (blk_below (g := gb360) (o := .cells #[.slice Ao51 t352.length co51, .slice Ao58 t355.length co58] 33 (0, 0)) (by (with_reducible repeat (first | refine blk_drewN ?_ _ | refine blk_drew ?_ | refine blk_alloc ?_ _)); exact BK360.out) hb)
                            have n14_ := Aside0.mk (blk_below (g := gb366) (o := .cells #[.int .i64 t361, .int .i64 t362, .bool t363] 29 (0, 0)) (by (with_reducible repeat (first | refine blk_drewN ?_ _ | refine blk_drew ?_ | refine blk_alloc ?_ _)); exact BK366.out) hb)
                            have n15_ := Aside0.mk (blk_below (g := gb372) (o := .cells #[.int .i64 t367, .int .i64 t368, .bool t369] 29 (0, 0)) (by (with_reducible repeat (first | refine blk_drewN ?_ _ | refine blk_drew ?_ | refine blk_alloc ?_ _)); exact BK372.out) hb)
                            have n16_ := Aside0.mk (below_step (by repeat (first | (with_reducible first | exact HB.out | apply below_alloc | apply pw_below_drewN | apply below_drew1 | refine below_set ?_ GE330.out | refine below_set ?_ GE331.out | refine below_set ?_ GE332.out | refine below_set ?_ GE333.out | refine below_set ?_ GE351.out | refine below_set ?_ GE360.out | refine below_set ?_ GE366.out | refine below_set ?_ GE372.out) | exact HB.out)) hb)
                            clear HO_352000
                            clear HO_352001
                            clear HO_361000
                            clear HO_361001
                            clear HO376
                            clear HO380
                            clear HO384
                            clear HO388
                            clear BK330
                            clear BK331
                            clear BK332
                            clear BK333
                            clear BK351
                            clear BK360
                            clear BK366
                            clear BK372
                            clear HB
                            have HO_352000 := n0_
                            have HO_352001 := n1_
                            have HO_361000 := n2_
                            have HO_361001 := n3_
                            have HO376 := n4_
                            have HO380 := n5_
                            have HO384 := n6_
                            have HO388 := n7_
                            have BK330 := n8_
                            have BK331 := n9_
                            have BK332 := n10_
                            have BK333 := n11_
                            have BK351 := n12_
                            have BK360 := n13_
                            have BK366 := n14_
                            have BK372 := n15_
                            have HB := n16_
                            clear n0_ n1_ n2_ n3_ n4_ n5_ n6_ n7_ n8_ n9_ n10_ n11_ n12_ n13_ n14_ n15_ n16_
                            (try clear hb)
                            (try clear hb2)
                            (try clear hk)
                            (try clear hi)
                            refine hK.out _ _ ⟨(blk_cell BK330.out 0).trans rfl, (blk_cell BK330.out 1).trans rfl, (blk_cell BK331.out 0).trans rfl, (blk_cell BK331.out 1).trans rfl, (blk_cell BK332.out 0).trans rfl, (blk_cell BK332.out 1).trans rfl, (blk_cell BK332.out 2).trans rfl, (blk_cell BK333.out 0).trans rfl, (blk_cell BK333.out 1).trans rfl, (blk_cell BK333.out 2).trans rfl, own_string (P := Try.prog) Try.underlying22 Try.underlying5 Try.underlying9 (Kd.own_of_R HO376.out), own_string (P := Try.prog) Try.underlying22 Try.underlying5 Try.underlying9 (Kd.own_of_R HO380.out), own_string (P := Try.prog) Try.underlying22 Try.underlying5 Try.underlying9 (Kd.own_of_R HO384.out), own_string (P := Try.prog) Try.underlying22 Try.underlying5 Try.underlying9 (Kd.own_of_R HO388.out)⟩ (fun hHeld => ?_)
                            clear hK K
                            refine norm_ (a' := ?_) ?_ ?_
                            rotate_left
                            · show Act.put _ (some 190) _ = _
                              simp only [Act.put, List.setIfInBounds_toArray, List.set_cons_zero, List.set_cons_succ, i64_w, i32_w]
                              rfl
                            refine pure_ (i := 30) (N := some 191) (v := ?_) (a' := ?_) #[true, true, true, true, true, true, true, true, true, true, true, true, true, true, true, true, true, true, true, true, true, true, true, true, true, true, true, true, true, true, true, false, false, false, false, false, false, false, false, false, false, false, false, false, false, false, false, false, false, false, false] rfl rfl (any_of HT_.out (by kernel_rfl)) (fun _ _ _ h => h) (Or.inl ⟨by rfl, ?_⟩) ?_ ?_
                            rotate_left
                            · intro w'
                              go_simp
                              with_reducible rfl
                            rotate_left
                            · simp only [Act.put, List.setIfInBounds_toArray, List.set_cons_zero, List.set_cons_succ, i64_w, i32_w]
                              rfl
                            refine pure_ (i := 31) (N := some 192) (v := ?_) (a' := ?_) #[true, true, true, true, true, true, true, true, true, true, true, true, true, true, true, true, true, true, true, true, true, true, true, true, true, true, true, true, true, true, true, true, false, false, false, false, false, false, false, false, false, false, false, false, false, false, false, false, false, false, false] rfl rfl (any_of HT_.out (by kernel_rfl)) (fun _ _ _ h => h) (Or.inl ⟨by rfl, ?_⟩) ?_ ?_
                            rotate_left
                            · intro w'
                              go_simp
                              with_reducible rfl
                            rotate_left
                            · simp only [Act.put, List.setIfInBounds_toArray, List.set_cons_zero, List.set_cons_succ, i64_w, i32_w]
                              rfl
                            refine pure_ (i := 32) (N := some 193) (v := ?_) (a' := ?_) #[true, true, true, true, true, true, true, true, true, true, true, true, true, true, true, true, true, true, true, true, true, true, true, true, true, true, true, true, true, true, true, true, true, false, false, false, false, false, false, false, false, false, false, false, false, false, false, false, false, false, false] rfl rfl (any_of HT_.out (by kernel_rfl)) (fun _ _ _ h => h) (Or.inl ⟨by rfl, ?_⟩) ?_ ?_
                            rotate_left
                            · intro w'
                              go_simp
                              with_reducible rfl
                            rotate_left
                            · simp only [Act.put, List.setIfInBounds_toArray, List.set_cons_zero, List.set_cons_succ, i64_w, i32_w]
                              rfl
                            refine take_ (i := 33) (N := some 194) (v := ?_) (a' := ?_) #[true, true, true, true, true, true, true, true, true, true, true, true, true, true, true, true, true, true, true, true, true, true, true, true, true, true, true, true, true, true, true, true, true, true, false, false, false, false, false, false, false, false, false, false, false, false, false, false, false, false, false] rfl rfl (take_ofW HT_.out HW_.out (by kernel_rfl)) (fun _ _ _ h => h) (Or.inl ⟨by rfl, ?_⟩) hHeld ?_ ?_
                            rotate_left
                            · rintro w' ⟨s0, s1, s2, s3, s4, s5, s6, s7, s8, s9, s10, s11, s12, s13⟩
                              (try simp only [List.length_take, List.length_drop] at s0 s1 s2 s3 s4 s5 s6 s7 s8 s9 s10 s11 s12 s13)
                              go_simp
                              with_reducible rfl
                            rotate_left
                            · simp only [Act.put, List.setIfInBounds_toArray, List.set_cons_zero, List.set_cons_succ, i64_w, i32_w]
                              rfl
                            refine take_ (i := 34) (N := some 195) (v := ?_) (a' := ?_) #[true, true, true, true, true, true, true, true, true, true, true, true, true, true, true, true, true, true, true, true, true, true, true, true, true, true, true, true, true, true, true, true, true, true, true, false, false, false, false, false, false, false, false, false, false, false, false, false, false, false, false] rfl rfl (take_ofW HT_.out HW_.out (by kernel_rfl)) (fun _ _ _ h => h) (Or.inl ⟨by rfl, ?_⟩) hHeld ?_ ?_
                            rotate_left
                            · rintro w' ⟨s0, s1, s2, s3, s4, s5, s6, s7, s8, s9, s10, s11, s12, s13⟩
                              (try simp only [List.length_take, List.length_drop] at s0 s1 s2 s3 s4 s5 s6 s7 s8 s9 s10 s11 s12 s13)
                              go_simp
                              with_reducible rfl
                            rotate_left
                            · simp only [Act.put, List.setIfInBounds_toArray, List.set_cons_zero, List.set_cons_succ, i64_w, i32_w]
                              rfl
                            refine take_ (i := 36) (N := some 197) (v := ?_) (a' := ?_) #[true, true, true, true, true, true, true, true, true, true, true, true, true, true, true, true, true, true, true, true, true, true, true, true, true, true, true, true, true, true, true, true, true, true, true, false, true, false, false, false, false, false, false, false, false, false, false, false, false, false, false] rfl rfl (take_ofW HT_.out HW_.out (by kernel_rfl)) (fun _ _ _ h => h) (Or.inl ⟨by rfl, ?_⟩) hHeld ?_ ?_
                            rotate_left
                            · rintro w' ⟨s0, s1, s2, s3, s4, s5, s6, s7, s8, s9, s10, s11, s12, s13⟩
                              (try simp only [List.length_take, List.length_drop] at s0 s1 s2 s3 s4 s5 s6 s7 s8 s9 s10 s11 s12 s13)
                              go_simp
                              with_reducible rfl
                            rotate_left
                            · simp only [Act.put, List.setIfInBounds_toArray, List.set_cons_zero, List.set_cons_succ, i64_w, i32_w]
                              rfl
                            refine take_ (i := 37) (N := some 198) (v := ?_) (a' := ?_) #[true, true, true, true, true, true, true, true, true, true, true, true, true, true, true, true, true, true, true, true, true, true, true, true, true, true, true, true, true, true, true, true, true, true, true, false, true, true, false, false, false, false, false, false, false, false, false, false, false, false, false] rfl rfl (take_ofW HT_.out HW_.out (by kernel_rfl)) (fun _ _ _ h => h) (Or.inl ⟨by rfl, ?_⟩) hHeld ?_ ?_
                            rotate_left
                            · rintro w' ⟨s0, s1, s2, s3, s4, s5, s6, s7, s8, s9, s10, s11, s12, s13⟩
                              (try simp only [List.length_take, List.length_drop] at s0 s1 s2 s3 s4 s5 s6 s7 s8 s9 s10 s11 s12 s13)
                              go_simp
                              with_reducible rfl
                            rotate_left
                            · simp only [Act.put, List.setIfInBounds_toArray, List.set_cons_zero, List.set_cons_succ, i64_w, i32_w]
                              rfl
                            refine one_ (i := 35) (N := some 196) #[true, true, true, true, true, true, true, true, true, true, true, true, true, true, true, true, true, true, true, true, true, true, true, true, true, true, true, true, true, true, true, true, true, true, true, true, true, true, false, false, false, false, false, false, false, false, false, false, false, false, false] rfl rfl (one_of HT_.out (by kernel_rfl)) (by decide) (fun K hK => ?_)
                            refine goes_ Try.func15 (by kernel_rfl) rfl #[.agg #[.slice A2_0 l2_0.length c2_0, .slice A2_1 l2_1.length c2_1], .agg #[.slice A3_0 l3_0.length c3_0, .slice A3_1 l3_1.length c3_1]] (by rfl) rfl rfl (by (try simp only [List.map_toArray, List.map_cons, List.map_nil]); first | done | rfl | (simp only [List.length_drop, List.length_take]; rfl)) ?_
                            with_reducible refine (types_Same.calls _ _ l2_0 _ _ l2_1 _ _ l3_0 _ _ l3_1 t392 _ ?side1 ?side2 ?side3 ?side4 ?side5 ?side6 ?side7 ?side8 A127.out).mono ?_
                            (case side1 => repeat (first | exact (Kd.C_below HR2_0.out HB.out) | (with_reducible refine Kd.C_alloc ?_ _) | (with_reducible refine Kd.C_drewN ?_ _) | (with_reducible refine Kd.C_drew ?_)))
                            (case side2 => exact HC2_0.out)
                            (case side3 => repeat (first | exact (Kd.C_below HR2_1.out HB.out) | (with_reducible refine Kd.C_alloc ?_ _) | (with_reducible refine Kd.C_drewN ?_ _) | (with_reducible refine Kd.C_drew ?_)))
                            (case side4 => exact HC2_1.out)
                            (case side5 => repeat (first | exact (Kd.C_below HR3_0.out HB.out) | (with_reducible refine Kd.C_alloc ?_ _) | (with_reducible refine Kd.C_drewN ?_ _) | (with_reducible refine Kd.C_drew ?_)))
                            (case side6 => exact HC3_0.out)
                            (case side7 => repeat (first | exact (Kd.C_below HR3_1.out HB.out) | (with_reducible refine Kd.C_alloc ?_ _) | (with_reducible refine Kd.C_drewN ?_ _) | (with_reducible refine Kd.C_drew ?_)))
                            (case side8 => exact HC3_1.out)
                            rintro e w161 ⟨rfl, hb⟩
                            refine ⟨_, rfl, ?_⟩
                            have n0_ := Aside0.mk (Kd.R_below (by (with_reducible repeat (first | apply Kd.R_alloc | apply Kd.R_drewN | apply Kd.R_drew)); exact HO_352000.out) hb)
                            have n1_ := Aside0.mk (Kd.R_below (by (with_reducible repeat (first | apply Kd.R_alloc | apply Kd.R_drewN | apply Kd.R_drew)); exact HO_352001.out) hb)
                            have n2_ := Aside0.mk (Kd.R_below (by (with_reducible repeat (first | apply Kd.R_alloc | apply Kd.R_drewN | apply Kd.R_drew)); exact HO_361000.out) hb)
                            have n3_ := Aside0.mk (Kd.R_below (by (with_reducible repeat (first | apply Kd.R_alloc | apply Kd.R_drewN | apply Kd.R_drew)); exact HO_361001.out) hb)
                            have n4_ := Aside0.mk (Kd.R_below (by (with_reducible repeat (first | apply Kd.R_alloc | apply Kd.R_drewN | apply Kd.R_drew)); exact HO376.out) hb)
                            have n5_ := Aside0.mk (Kd.R_below (by (with_reducible repeat (first | apply Kd.R_alloc | apply Kd.R_drewN | apply Kd.R_drew)); exact HO380.out) hb)
                            have n6_ := Aside0.mk (Kd.R_below (by (with_reducible repeat (first | apply Kd.R_alloc | apply Kd.R_drewN | apply Kd.R_drew)); exact HO384.out) hb)
                            have n7_ := Aside0.mk (Kd.R_below (by (with_reducible repeat (first | apply Kd.R_alloc | apply Kd.R_drewN | apply Kd.R_drew)); exact HO388.out) hb)
                            have n8_ := Aside0.mk (blk_below (g := gb330) (o := .cells #[.slice A2_0 l2_0.length c2_0, .slice A2_1 l2_1.length c2_1] 33 (0, 0)) (by (with_reducible repeat (first | refine blk_drewN ?_ _ | refine blk_drew ?_ | refine blk_alloc ?_ _)); exact BK330.out) hb)
                            have n9_ := Aside0.mk (blk_below (g := gb331) (o := .cells #[.slice A3_0 l3_0.length c3_0, .slice A3_1 l3_1.length c3_1] 33 (0, 0)) (by (with_reducible repeat (first | refine blk_drewN ?_ _ | refine blk_drew ?_ | refine blk_alloc ?_ _)); exact BK331.out) hb)
                            have n10_ := Aside0.mk (blk_below (g := gb332) (o := .cells #[.int .i64 a4_0, .int .i64 a4_1, .bool a4_2] 29 (0, 0)) (by (with_reducible repeat (first | refine blk_drewN ?_ _ | refine blk_drew ?_ | refine blk_alloc ?_ _)); exact BK332.out) hb)
                            have n11_ := Aside0.mk (blk_below (g := gb333) (o := .cells #[.int .i64 a5_0, .int .i64 a5_1, .bool a5_2] 29 (0, 0)) (by (with_reducible repeat (first | refine blk_drewN ?_ _ | refine blk_drew ?_ | refine blk_alloc ?_ _)); exact BK333.out) hb)
                            have n12_ := Aside0.mk (blk_below (g := gb351) (o := .cells #[.slice Ao42 t343.length co42, .slice Ao48 t346.length co48] 33 (0, 0)) (by (with_reducible repeat (first | refine blk_drewN ?_ _ | refine blk_drew ?_ | refine blk_alloc ?_ _)); exact BK351.out) hb)
                            have n13_ := Aside0.mk (blk_below (g := gb360) (o := .cells #[.slice Ao51 t352.length co51, .slice Ao58 t355.length co58] 33 (0, 0)) (by (with_reducible repeat (first | refine blk_drewN ?_ _ | refine blk_drew ?_ | refine blk_alloc ?_ _)); exact BK360.out) hb)
                            have n14_ := Aside0.mk (blk_below (g := gb366) (o := .cells #[.int .i64 t361, .int .i64 t362, .bool t363] 29 (0, 0)) (by (with_reducible repeat (first | refine blk_drewN ?_ _ | refine blk_drew ?_ | refine blk_alloc ?_ _)); exact BK366.out) hb)
                            have n15_ := Aside0.mk (blk_below (g := gb372) (o := .cells #[.int .i64 t367, .int .i64 t368, .bool t369] 29 (0, 0)) (by (with_reducible repeat (first | refine blk_drewN ?_ _ | refine blk_drew ?_ | refine blk_alloc ?_ _)); exact BK372.out) hb)
                            have n16_ := Aside0.mk (below_step (by repeat (first | (with_reducible first | exact HB.out | apply below_alloc | apply pw_below_drewN | apply below_drew1 | refine below_set ?_ GE330.out | refine below_set ?_ GE331.out | refine below_set ?_ GE332.out | refine below_set ?_ GE333.out | refine below_set ?_ GE351.out | refine below_set ?_ GE360.out | refine below_set ?_ GE366.out | refine below_set ?_ GE372.out) | exact HB.out)) hb)
                            clear HO_352000
                            clear HO_352001
                            clear HO_361000
                            clear HO_361001
                            clear HO376
                            clear HO380
                            clear HO384
                            clear HO388
                            clear BK330
                            clear BK331
                            clear BK332
                            clear BK333
                            clear BK351
                            clear BK360
                            clear BK366
                            clear BK372
                            clear HB
                            have HO_352000 := n0_
                            have HO_352001 := n1_
                            have HO_361000 := n2_
                            have HO_361001 := n3_
                            have HO376 := n4_
                            have HO380 := n5_
                            have HO384 := n6_
                            have HO388 := n7_
                            have BK330 := n8_
                            have BK331 := n9_
                            have BK332 := n10_
                            have BK333 := n11_
                            have BK351 := n12_
                            have BK360 := n13_
                            have BK366 := n14_
                            have BK372 := n15_
                            have HB := n16_
                            clear n0_ n1_ n2_ n3_ n4_ n5_ n6_ n7_ n8_ n9_ n10_ n11_ n12_ n13_ n14_ n15_ n16_
                            (try clear hb)
                            (try clear hb2)
                            (try clear hk)
                            (try clear hi)
                            refine hK.out _ _ ⟨(blk_cell BK330.out 0).trans rfl, (blk_cell BK330.out 1).trans rfl, (blk_cell BK331.out 0).trans rfl, (blk_cell BK331.out 1).trans rfl, (blk_cell BK332.out 0).trans rfl, (blk_cell BK332.out 1).trans rfl, (blk_cell BK332.out 2).trans rfl, (blk_cell BK333.out 0).trans rfl, (blk_cell BK333.out 1).trans rfl, (blk_cell BK333.out 2).trans rfl, own_string (P := Try.prog) Try.underlying22 Try.underlying5 Try.underlying9 (Kd.own_of_R HO376.out), own_string (P := Try.prog) Try.underlying22 Try.underlying5 Try.underlying9 (Kd.own_of_R HO380.out), own_string (P := Try.prog) Try.underlying22 Try.underlying5 Try.underlying9 (Kd.own_of_R HO384.out), own_string (P := Try.prog) Try.underlying22 Try.underlying5 Try.underlying9 (Kd.own_of_R HO388.out)⟩ (fun hHeld => ?_)
                            clear hK K
                            refine norm_ (a' := ?_) ?_ ?_
                            rotate_left
                            · show Act.put _ (some 196) _ = _
                              simp only [Act.put, List.setIfInBounds_toArray, List.set_cons_zero, List.set_cons_succ, i64_w, i32_w]
                              rfl
                            refine one_ (i := 38) (N := some 199) #[true, true, true, true, true, true, true, true, true, true, true, true, true, true, true, true, true, true, true, true, true, true, true, true, true, true, true, true, true, true, true, true, true, true, true, true, true, true, true, false, false, false, false, false, false, false, false, false, false, false, false] rfl rfl (one_of HT_.out (by kernel_rfl)) (by decide) (fun K hK => ?_)
                            refine goes_ Try.func22 (by kernel_rfl) rfl #[.agg #[.slice A2_0 l2_0.length c2_0, .slice A2_1 l2_1.length c2_1], .agg #[.slice A3_0 l3_0.length c3_0, .slice A3_1 l3_1.length c3_1]] (by rfl) rfl rfl (by (try simp only [List.map_toArray, List.map_cons, List.map_nil]); first | done | rfl | (simp only [List.length_drop, List.length_take]; rfl)) ?_
                            with_reducible refine (avocetref04_Same.calls _ _ l2_0 _ _ l2_1 _ _ l3_0 _ _ l3_1 t393 _ ?side1 ?side2 ?side3 ?side4 ?side5 ?side6 ?side7 ?side8 A128.out).mono ?_
                            (case side1 => repeat (first | exact (Kd.C_below HR2_0.out HB.out) | (with_reducible refine Kd.C_alloc ?_ _) | (with_reducible refine Kd.C_drewN ?_ _) | (with_reducible refine Kd.C_drew ?_)))
                            (case side2 => exact HC2_0.out)
                            (case side3 => repeat (first | exact (Kd.C_below HR2_1.out HB.out) | (with_reducible refine Kd.C_alloc ?_ _) | (with_reducible refine Kd.C_drewN ?_ _) | (with_reducible refine Kd.C_drew ?_)))
                            (case side4 => exact HC2_1.out)
                            (case side5 => repeat (first | exact (Kd.C_below HR3_0.out HB.out) | (with_reducible refine Kd.C_alloc ?_ _) | (with_reducible refine Kd.C_drewN ?_ _) | (with_reducible refine Kd.C_drew ?_)))
                            (case side6 => exact HC3_0.out)
                            (case side7 => repeat (first | exact (Kd.C_below HR3_1.out HB.out) | (with_reducible refine Kd.C_alloc ?_ _) | (with_reducible refine Kd.C_drewN ?_ _) | (with_reducible refine Kd.C_drew ?_)))
                            (case side8 => exact HC3_1.out)
                            rintro e w162 ⟨rfl, hb⟩
                            refine ⟨_, rfl, ?_⟩
                            have n0_ := Aside0.mk (Kd.R_below (by (with_reducible repeat (first | apply Kd.R_alloc | apply Kd.R_drewN | apply Kd.R_drew)); exact HO_352000.out) hb)
                            have n1_ := Aside0.mk (Kd.R_below (by (with_reducible repeat (first | apply Kd.R_alloc | apply Kd.R_drewN | apply Kd.R_drew)); exact HO_352001.out) hb)
                            have n2_ := Aside0.mk (Kd.R_below (by (with_reducible repeat (first | apply Kd.R_alloc | apply Kd.R_drewN | apply Kd.R_drew)); exact HO_361000.out) hb)
                            have n3_ := Aside0.mk (Kd.R_below (by (with_reducible repeat (first | apply Kd.R_alloc | apply Kd.R_drewN | apply Kd.R_drew)); exact HO_361001.out) hb)
                            have n4_ := Aside0.mk (Kd.R_below (by (with_reducible repeat (first | apply Kd.R_alloc | apply Kd.R_drewN | apply Kd.R_drew)); exact HO376.out) hb)
                            have n5_ := Aside0.mk (Kd.R_below (by (with_reducible repeat (first | apply Kd.R_alloc | apply Kd.R_drewN | apply Kd.R_drew)); exact HO380.out) hb)
                            have n6_ := Aside0.mk (Kd.R_below (by (with_reducible repeat (first | apply Kd.R_alloc | apply Kd.R_drewN | apply Kd.R_drew)); exact HO384.out) hb)
                            have n7_ := Aside0.mk (Kd.R_below (by (with_reducible repeat (first | apply Kd.R_alloc | apply Kd.R_drewN | apply Kd.R_drew)); exact HO388.out) hb)
                            have n8_ := Aside0.mk (blk_below (g := gb330) (o := .cells #[.slice A2_0 l2_0.length c2_0, .slice A2_1 l2_1.length c2_1] 33 (0, 0)) (by (with_reducible repeat (first | refine blk_drewN ?_ _ | refine blk_drew ?_ | refine blk_alloc ?_ _)); exact BK330.out) hb)
                            have n9_ := Aside0.mk (blk_below (g := gb331) (o := .cells #[.slice A3_0 l3_0.length c3_0, .slice A3_1 l3_1.length c3_1] 33 (0, 0)) (by (with_reducible repeat (first | refine blk_drewN ?_ _ | refine blk_drew ?_ | refine blk_alloc ?_ _)); exact BK331.out) hb)
                            have n10_ := Aside0.mk (blk_below (g := gb332) (o := .cells #[.int .i64 a4_0, .int .i64 a4_1, .bool a4_2] 29 (0, 0)) (by (with_reducible repeat (first | refine blk_drewN ?_ _ | refine blk_drew ?_ | refine blk_alloc ?_ _)); exact BK332.out) hb)
                            have n11_ := Aside0.mk (blk_below (g := gb333) (o := .cells #[.int .i64 a5_0, .int .i64 a5_1, .bool a5_2] 29 (0, 0)) (by (with_reducible repeat (first | refine blk_drewN ?_ _ | refine blk_drew ?_ | refine blk_alloc ?_ _)); exact BK333.out) hb)
                            have n12_ := Aside0.mk (blk_below (g := gb351) (o := .cells #[.slice Ao42 t343.length co42, .slice Ao48 t346.length co48] 33 (0, 0)) (by (with_reducible repeat (first | refine blk_drewN ?_ _ | refine blk_drew ?_ | refine blk_alloc ?_ _)); exact BK351.out) hb)
                            have n13_ := Aside0.mk (blk_below (g := gb360) (o := .cells #[.slice Ao51 t352.length co51, .slice Ao58 t355.length co58] 33 (0, 0)) (by (with_reducible repeat (first | refine blk_drewN ?_ _ | refine blk_drew ?_ | refine blk_alloc ?_ _)); exact BK360.out) hb)
                            have n14_ := Aside0.mk (blk_below (g := gb366) (o := .cells #[.int .i64 t361, .int .i64 t362, .bool t363] 29 (0, 0)) (by (with_reducible repeat (first | refine blk_drewN ?_ _ | refine blk_drew ?_ | refine blk_alloc ?_ _)); exact BK366.out) hb)
                            have n15_ := Aside0.mk (blk_below (g := gb372) (o := .cells #[.int .i64 t367, .int .i64 t368, .bool t369] 29 (0, 0)) (by (with_reducible repeat (first | refine blk_drewN ?_ _ | refine blk_drew ?_ | refine blk_alloc ?_ _)); exact BK372.out) hb)
                            have n16_ := Aside0.mk (below_step (by repeat (first | (with_reducible first | exact HB.out | apply below_alloc | apply pw_below_drewN | apply below_drew1 | refine below_set ?_ GE330.out | refine below_set ?_ GE331.out | refine below_set ?_ GE332.out | refine below_set ?_ GE333.out | refine below_set ?_ GE351.out | refine below_set ?_ GE360.out | refine below_set ?_ GE366.out | refine below_set ?_ GE372.out) | exact HB.out)) hb)
                            clear HO_352000
                            clear HO_352001
                            clear HO_361000
                            clear HO_361001
                            clear HO376
                            clear HO380
                            clear HO384
                            clear HO388
                            clear BK330
                            clear BK331
                            clear BK332
                            clear BK333
                            clear BK351
                            clear BK360
                            clear BK366
                            clear BK372
                            clear HB
                            have HO_352000 := n0_
                            have HO_352001 := n1_
                            have HO_361000 := n2_
                            have HO_361001 := n3_
                            have HO376 := n4_
                            have HO380 := n5_
                            have HO384 := n6_
                            have HO388 := n7_
                            have BK330 := n8_
                            have BK331 := n9_
                            have BK332 := n10_
                            have BK333 := n11_
                            have BK351 := n12_
                            have BK360 := n13_
                            have BK366 := n14_
                            have BK372 := n15_
                            have HB := n16_
                            clear n0_ n1_ n2_ n3_ n4_ n5_ n6_ n7_ n8_ n9_ n10_ n11_ n12_ n13_ n14_ n15_ n16_
                            (try clear hb)
                            (try clear hb2)
                            (try clear hk)
                            (try clear hi)
                            refine hK.out _ _ ⟨(blk_cell BK330.out 0).trans rfl, (blk_cell BK330.out 1).trans rfl, (blk_cell BK331.out 0).trans rfl, (blk_cell BK331.out 1).trans rfl, (blk_cell BK332.out 0).trans rfl, (blk_cell BK332.out 1).trans rfl, (blk_cell BK332.out 2).trans rfl, (blk_cell BK333.out 0).trans rfl, (blk_cell BK333.out 1).trans rfl, (blk_cell BK333.out 2).trans rfl, own_string (P := Try.prog) Try.underlying22 Try.underlying5 Try.underlying9 (Kd.own_of_R HO376.out), own_string (P := Try.prog) Try.underlying22 Try.underlying5 Try.underlying9 (Kd.own_of_R HO380.out), own_string (P := Try.prog) Try.underlying22 Try.underlying5 Try.underlying9 (Kd.own_of_R HO384.out), own_string (P := Try.prog) Try.underlying22 Try.underlying5 Try.underlying9 (Kd.own_of_R HO388.out)⟩ (fun hHeld => ?_)
                            clear hK K
                            refine norm_ (a' := ?_) ?_ ?_
                            rotate_left
                            · show Act.put _ (some 199) _ = _
                              simp only [Act.put, List.setIfInBounds_toArray, List.set_cons_zero, List.set_cons_succ, i64_w, i32_w]
                              rfl
                            refine pure_ (i := 39) (N := some 200) (v := ?_) (a' := ?_) #[true, true, true, true, true, true, true, true, true, true, true, true, true, true, true, true, true, true, true, true, true, true, true, true, true, true, true, true, true, true, true, true, true, true, true, true, true, true, true, true, false, false, false, false, false, false, false, false, false, false, false] rfl rfl (any_of HT_.out (by kernel_rfl)) (fun _ _ _ h => h) (Or.inl ⟨by rfl, ?_⟩) ?_ ?_
                            rotate_left
                            · intro w'
                              go_simp
                              with_reducible rfl
                            rotate_left
                            · simp only [Act.put, List.setIfInBounds_toArray, List.set_cons_zero, List.set_cons_succ, i64_w, i32_w]
                              rfl
                            refine pure_ (i := 40) (N := some 201) (v := ?_) (a' := ?_) #[true, true, true, true, true, true, true, true, true, true, true, true, true, true, true, true, true, true, true, true, true, true, true, true, true, true, true, true, true, true, true, true, true, true, true, true, true, true, true, true, true, false, false, false, false, false, false, false, false, false, false] rfl rfl (any_of HT_.out (by kernel_rfl)) (fun _ _ _ h => h) (Or.inl ⟨by rfl, ?_⟩) ?_ ?_
                            rotate_left
                            · intro w'
                              go_simp
                              with_reducible rfl
                            rotate_left
                            · simp only [Act.put, List.setIfInBounds_toArray, List.set_cons_zero, List.set_cons_succ, i64_w, i32_w]
                              rfl
                            refine pure_ (i := 41) (N := some 202) (v := ?_) (a' := ?_) #[true, true, true, true, true, true, true, true, true, true, true, true, true, true, true, true, true, true, true, true, true, true, true, true, true, true, true, true, true, true, true, true, true, true, true, true, true, true, true, true, true, true, false, false, false, false, false, false, false, false, false] rfl rfl (any_of HT_.out (by kernel_rfl)) (fun _ _ _ h => h) (Or.inl ⟨by rfl, ?_⟩) ?_ ?_
                            rotate_left
                            · intro w'
                              go_simp
                              with_reducible rfl
                            rotate_left
                            · simp only [Act.put, List.setIfInBounds_toArray, List.set_cons_zero, List.set_cons_succ, i64_w, i32_w]
                              rfl
                            refine take_ (i := 42) (N := some 203) (v := ?_) (a' := ?_) #[true, true, true, true, true, true, true, true, true, true, true, true, true, true, true, true, true, true, true, true, true, true, true, true, true, true, true, true, true, true, true, true, true, true, true, true, true, true, true, true, true, true, true, false, false, false, false, false, false, false, false] rfl rfl (take_ofW HT_.out HW_.out (by kernel_rfl)) (fun _ _ _ h => h) (Or.inl ⟨by rfl, ?_⟩) hHeld ?_ ?_
                            rotate_left
                            · rintro w' ⟨s0, s1, s2, s3, s4, s5, s6, s7, s8, s9, s10, s11, s12, s13⟩
                              (try simp only [List.length_take, List.length_drop] at s0 s1 s2 s3 s4 s5 s6 s7 s8 s9 s10 s11 s12 s13)
                              go_simp
                              with_reducible rfl
                            rotate_left
                            · simp only [Act.put, List.setIfInBounds_toArray, List.set_cons_zero, List.set_cons_succ, i64_w, i32_w]
                              rfl
                            refine take_ (i := 43) (N := some 204) (v := ?_) (a' := ?_) #[true, true, true, true, true, true, true, true, true, true, true, true, true, true, true, true, true, true, true, true, true, true, true, true, true, true, true, true, true, true, true, true, true, true, true, true, true, true, true, true, true, true, true, true, false, false, false, false, false, false, false] rfl rfl (take_ofW HT_.out HW_.out (by kernel_rfl)) (fun _ _ _ h => h) (Or.inl ⟨by rfl, ?_⟩) hHeld ?_ ?_
                            rotate_left
                            · rintro w' ⟨s0, s1, s2, s3, s4, s5, s6, s7, s8, s9, s10, s11, s12, s13⟩
                              (try simp only [List.length_take, List.length_drop] at s0 s1 s2 s3 s4 s5 s6 s7 s8 s9 s10 s11 s12 s13)
                              go_simp
                              with_reducible rfl
                            rotate_left
                            · simp only [Act.put, List.setIfInBounds_toArray, List.set_cons_zero, List.set_cons_succ, i64_w, i32_w]
                              rfl
                            refine take_ (i := 45) (N := some 206) (v := ?_) (a' := ?_) #[true, true, true, true, true, true, true, true, true, true, true, true, true, true, true, true, true, true, true, true, true, true, true, true, true, true, true, true, true, true, true, true, true, true, true, true, true, true, true, true, true, true, true, true, false, true, false, false, false, false, false] rfl rfl (take_ofW HT_.out HW_.out (by kernel_rfl)) (fun _ _ _ h => h) (Or.inl ⟨by rfl, ?_⟩) hHeld ?_ ?_
                            rotate_left
                            · rintro w' ⟨s0, s1, s2, s3, s4, s5, s6, s7, s8, s9, s10, s11, s12, s13⟩
                              (try simp only [List.length_take, List.length_drop] at s0 s1 s2 s3 s4 s5 s6 s7 s8 s9 s10 s11 s12 s13)
                              go_simp
                              with_reducible rfl
                            rotate_left
                            · simp only [Act.put, List.setIfInBounds_toArray, List.set_cons_zero, List.set_cons_succ, i64_w, i32_w]
                              rfl
                            refine take_ (i := 46) (N := some 207) (v := ?_) (a' := ?_) #[true, true, true, true, true, true, true, true, true, true, true, true, true, true, true, true, true, true, true, true, true, true, true, true, true, true, true, true, true, true, true, true, true, true, true, true, true, true, true, true, true, true, true, true, false, true, true, false, false, false, false] rfl rfl (take_ofW HT_.out HW_.out (by kernel_rfl)) (fun _ _ _ h => h) (Or.inl ⟨by rfl, ?_⟩) hHeld ?_ ?_
                            rotate_left
                            · rintro w' ⟨s0, s1, s2, s3, s4, s5, s6, s7, s8, s9, s10, s11, s12, s13⟩
                              (try simp only [List.length_take, List.length_drop] at s0 s1 s2 s3 s4 s5 s6 s7 s8 s9 s10 s11 s12 s13)
                              go_simp
                              with_reducible rfl
                            rotate_left
                            · simp only [Act.put, List.setIfInBounds_toArray, List.set_cons_zero, List.set_cons_succ, i64_w, i32_w]
                              rfl
                            refine one_ (i := 44) (N := some 205) #[true, true, true, true, true, true, true, true, true, true, true, true, true, true, true, true, true, true, true, true, true, true, true, true, true, true, true, true, true, true, true, true, true, true, true, true, true, true, true, true, true, true, true, true, true, true, true, false, false, false, false] rfl rfl (one_of HT_.out (by kernel_rfl)) (by decide) (fun K hK => ?_)
                            refine goes_ Try.func11 (by kernel_rfl) rfl #[.agg #[.int .i64 a4_0, .int .i64 a4_1, .bool a4_2], .agg #[.int .i64 a5_0, .int .i64 a5_1, .bool a5_2]] (by rfl) rfl rfl (by (try simp only [List.map_toArray, List.map_cons, List.map_nil]); first | done | rfl | (simp only [List.length_drop, List.length_take]; rfl)) ?_
                            with_reducible refine (types_Within.calls a4_0 a4_1 a4_2 a5_0 a5_1 a5_2 t394 _ A130.out).mono ?_
                            rintro e w163 ⟨rfl, hb⟩
                            refine ⟨_, rfl, ?_⟩
                            have n0_ := Aside0.mk (Kd.R_below (by (with_reducible repeat (first | apply Kd.R_alloc | apply Kd.R_drewN | apply Kd.R_drew)); exact HO_352000.out) hb)
                            have n1_ := Aside0.mk (Kd.R_below (by (with_reducible repeat (first | apply Kd.R_alloc | apply Kd.R_drewN | apply Kd.R_drew)); exact HO_352001.out) hb)
                            have n2_ := Aside0.mk (Kd.R_below (by (with_reducible repeat (first | apply Kd.R_alloc | apply Kd.R_drewN | apply Kd.R_drew)); exact HO_361000.out) hb)
                            have n3_ := Aside0.mk (Kd.R_below (by (with_reducible repeat (first | apply Kd.R_alloc | apply Kd.R_drewN | apply Kd.R_drew)); exact HO_361001.out) hb)
                            have n4_ := Aside0.mk (Kd.R_below (by (with_reducible repeat (first | apply Kd.R_alloc | apply Kd.R_drewN | apply Kd.R_drew)); exact HO376.out) hb)
                            have n5_ := Aside0.mk (Kd.R_below (by (with_reducible repeat (first | apply Kd.R_alloc | apply Kd.R_drewN | apply Kd.R_drew)); exact HO380.out) hb)
                            have n6_ := Aside0.mk (Kd.R_below (by (with_reducible repeat (first | apply Kd.R_alloc | apply Kd.R_drewN | apply Kd.R_drew)); exact HO384.out) hb)
                            have n7_ := Aside0.mk (Kd.R_below (by (with_reducible repeat (first | apply Kd.R_alloc | apply Kd.R_drewN | apply Kd.R_drew)); exact HO388.out) hb)
                            have n8_ := Aside0.mk (blk_below (g := gb330) (o := .cells #[.slice A2_0 l2_0.length c2_0, .slice A2_1 l2_1.length c2_1] 33 (0, 0)) (by (with_reducible repeat (first | refine blk_drewN ?_ _ | refine blk_drew ?_ | refine blk_alloc ?_ _)); exact BK330.out) hb)
                            have n9_ := Aside0.mk (blk_below (g := gb331) (o := .cells #[.slice A3_0 l3_0.length c3_0, .slice A3_1 l3_1.length c3_1] 33 (0, 0)) (by (with_reducible repeat (first | refine blk_drewN ?_ _ | refine blk_drew ?_ | refine blk_alloc ?_ _)); exact BK331.out) hb)
                            have n10_ := Aside0.mk (blk_below (g := gb332) (o := .cells #[.int .i64 a4_0, .int .i64 a4_1, .bool a4_2] 29 (0, 0)) (by (with_reducible repeat (first | refine blk_drewN ?_ _ | refine blk_drew ?_ | refine blk_alloc ?_ _)); exact BK332.out) hb)
                            have n11_ := Aside0.mk (blk_below (g := gb333) (o := .cells #[.int .i64 a5_0, .int .i64 a5_1, .bool a5_2] 29 (0, 0)) (by (with_reducible repeat (first | refine blk_drewN ?_ _ | refine blk_drew ?_ | refine blk_alloc ?_ _)); exact BK333.out) hb)
                            have n12_ := Aside0.mk (blk_below (g := gb351) (o := .cells #[.slice Ao42 t343.length co42, .slice Ao48 t346.length co48] 33 (0, 0)) (by (with_reducible repeat (first | refine blk_drewN ?_ _ | refine blk_drew ?_ | refine blk_alloc ?_ _)); exact BK351.out) hb)
                            have n13_ := Aside0.mk (blk_below (g := gb360) (o := .cells #[.slice Ao51 t352.length co51, .slice Ao58 t355.length co58] 33 (0, 0)) (by (with_reducible repeat (first | refine blk_drewN ?_ _ | refine blk_drew ?_ | refine blk_alloc ?_ _)); exact BK360.out) hb)
                            have n14_ := Aside0.mk (blk_below (g := gb366) (o := .cells #[.int .i64 t361, .int .i64 t362, .bool t363] 29 (0, 0)) (by (with_reducible repeat (first | refine blk_drewN ?_ _ | refine blk_drew ?_ | refine blk_alloc ?_ _)); exact BK366.out) hb)
                            have n15_ := Aside0.mk (blk_below (g := gb372) (o := .cells #[.int .i64 t367, .int .i64 t368, .bool t369] 29 (0, 0)) (by (with_reducible repeat (first | refine blk_drewN ?_ _ | refine blk_drew ?_ | refine blk_alloc ?_ _)); exact BK372.out) hb)
                            have n16_ := Aside0.mk (below_step (by repeat (first | (with_reducible first | exact HB.out | apply below_alloc | apply pw_below_drewN | apply below_drew1 | refine below_set ?_ GE330.out | refine below_set ?_ GE331.out | refine below_set ?_ GE332.out | refine below_set ?_ GE333.out | refine below_set ?_ GE351.out | refine below_set ?_ GE360.out | refine below_set ?_ GE366.out | refine below_set ?_ GE372.out) | exact HB.out)) hb)
                            clear HO_352000
                            clear HO_352001
                            clear HO_361000
                            clear HO_361001
                            clear HO376
                            clear HO380
                            clear HO384
                            clear HO388
                            clear BK330
                            clear BK331
                            clear BK332
                            clear BK333
                            clear BK351
                            clear BK360
                            clear BK366
                            clear BK372
                            clear HB
                            have HO_352000 := n0_
                            have HO_352001 := n1_
                            have HO_361000 := n2_
                            have HO_361001 := n3_
                            have HO376 := n4_
                            have HO380 := n5_
                            have HO384 := n6_
                            have HO388 := n7_
                            have BK330 := n8_
                            have BK331 := n9_
                            have BK332 := n10_
                            have BK333 := n11_
                            have BK351 := n12_
                            have BK360 := n13_
                            have BK366 := n14_
                            have BK372 := n15_
                            have HB := n16_
                            clear n0_ n1_ n2_ n3_ n4_ n5_ n6_ n7_ n8_ n9_ n10_ n11_ n12_ n13_ n14_ n15_ n16_
                            (try clear hb)
                            (try clear hb2)
                            (try clear hk)
                            (try clear hi)
                            refine hK.out _ _ ⟨(blk_cell BK330.out 0).trans rfl, (blk_cell BK330.out 1).trans rfl, (blk_cell BK331.out 0).trans rfl, (blk_cell BK331.out 1).trans rfl, (blk_cell BK332.out 0).trans rfl, (blk_cell BK332.out 1).trans rfl, (blk_cell BK332.out 2).trans rfl, (blk_cell BK333.out 0).trans rfl, (blk_cell BK333.out 1).trans rfl, (blk_cell BK333.out 2).trans rfl, own_string (P := Try.prog) Try.underlying22 Try.underlying5 Try.underlying9 (Kd.own_of_R HO376.out), own_string (P := Try.prog) Try.underlying22 Try.underlying5 Try.underlying9 (Kd.own_of_R HO380.out), own_string (P := Try.prog) Try.underlying22 Try.underlying5 Try.underlying9 (Kd.own_of_R HO384.out), own_string (P := Try.prog) Try.underlying22 Try.underlying5 Try.underlying9 (Kd.own_of_R HO388.out)⟩ (fun hHeld => ?_)
                            clear hK K
                            refine norm_ (a' := ?_) ?_ ?_
                            rotate_left
                            · show Act.put _ (some 205) _ = _
                              simp only [Act.put, List.setIfInBounds_toArray, List.set_cons_zero, List.set_cons_succ, i64_w, i32_w]
                              rfl
                            refine one_ (i := 47) (N := some 208) #[true, true, true, true, true, true, true, true, true, true, true, true, true, true, true, true, true, true, true, true, true, true, true, true, true, true, true, true, true, true, true, true, true, true, true, true, true, true, true, true, true, true, true, true, true, true, true, true, false, false, false] rfl rfl (one_of HT_.out (by kernel_rfl)) (by decide) (fun K hK => ?_)
                            refine goes_ Try.func26 (by kernel_rfl) rfl #[.agg #[.int .i64 a4_0, .int .i64 a4_1, .bool a4_2], .agg #[.int .i64 a5_0, .int .i64 a5_1, .bool a5_2]] (by rfl) rfl rfl (by (try simp only [List.map_toArray, List.map_cons, List.map_nil]); first | done | rfl | (simp only [List.length_drop, List.length_take]; rfl)) ?_
                            with_reducible refine (avocetref04_Within.calls a4_0 a4_1 a4_2 a5_0 a5_1 a5_2 t395 _ A131.out).mono ?_
                            rintro e w164 ⟨rfl, hb⟩
                            refine ⟨_, rfl, ?_⟩
                            have n0_ := Aside0.mk (Kd.R_below (by (with_reducible repeat (first | apply Kd.R_alloc | apply Kd.R_drewN | apply Kd.R_drew)); exact HO_352000.out) hb)
                            have n1_ := Aside0.mk (Kd.R_below (by (with_reducible repeat (first | apply Kd.R_alloc | apply Kd.R_drewN | apply Kd.R_drew)); exact HO_352001.out) hb)
                            have n2_ := Aside0.mk (Kd.R_below (by (with_reducible repeat (first | apply Kd.R_alloc | apply Kd.R_drewN | apply Kd.R_drew)); exact HO_361000.out) hb)
                            have n3_ := Aside0.mk (Kd.R_below (by (with_reducible repeat (first | apply Kd.R_alloc | apply Kd.R_drewN | apply Kd.R_drew)); exact HO_361001.out) hb)
                            have n4_ := Aside0.mk (Kd.R_below (by (with_reducible repeat (first | apply Kd.R_alloc | apply Kd.R_drewN | apply Kd.R_drew)); exact HO376.out) hb)
                            have n5_ := Aside0.mk (Kd.R_below (by (with_reducible repeat (first | apply Kd.R_alloc | apply Kd.R_drewN | apply Kd.R_drew)); exact HO380.out) hb)
                            have n6_ := Aside0.mk (Kd.R_below (by (with_reducible repeat (first | apply Kd.R_alloc | apply Kd.R_drewN | apply Kd.R_drew)); exact HO384.out) hb)
                            have n7_ := Aside0.mk (Kd.R_below (by (with_reducible repeat (first | apply Kd.R_alloc | apply Kd.R_drewN | apply Kd.R_drew)); exact HO388.out) hb)
                            have n8_ := Aside0.mk (blk_below (g := gb330) (o := .cells #[.slice A2_0 l2_0.length c2_0, .slice A2_1 l2_1.length c2_1] 33 (0, 0)) (by (with_reducible repeat (first | refine blk_drewN ?_ _ | refine blk_drew ?_ | refine blk_alloc ?_ _)); exact BK330.out) hb)
                            have n9_ := Aside0.mk (blk_below (g := gb331) (o := .cells #[.slice A3_0 l3_0.length c3_0, .slice A3_1 l3_1.length c3_1] 33 (0, 0)) (by (with_reducible repeat (first | refine blk_drewN ?_ _ | refine blk_drew ?_ | refine blk_alloc ?_ _)); exact BK331.out) hb)
                            have n10_ := Aside0.mk (blk_below (g := gb332) (o := .cells #[.int .i64 a4_0, .int .i64 a4_1, .bool a4_2] 29 (0, 0)) (by (with_reducible repeat (first | refine blk_drewN ?_ _ | refine blk_drew ?_ | refine blk_alloc ?_ _)); exact BK332.out) hb)
                            have n11_ := Aside0.mk (blk_below (g := gb333) (o := .cells #[.int .i64 a5_0, .int .i64 a5_1, .bool a5_2] 29 (0, 0)) (by (with_reducible repeat (first | refine blk_drewN ?_ _ | refine blk_drew ?_ | refine blk_alloc ?_ _)); exact BK333.out) hb)
                            have n12_ := Aside0.mk (blk_below (g := gb351) (o := .cells #[.slice Ao42 t343.length co42, .slice Ao48 t346.length co48] 33 (0, 0)) (by (with_reducible repeat (first | refine blk_drewN ?_ _ | refine blk_drew ?_ | refine blk_alloc ?_ _)); exact BK351.out) hb)
                            have n13_ := Aside0.mk (blk_below (g := gb360) (o := .cells #[.slice Ao51 t352.length co51, .slice Ao58 t355.length co58] 33 (0, 0)) (by (with_reducible repeat (first | refine blk_drewN ?_ _ | refine blk_drew ?_ | refine blk_alloc ?_ _)); exact BK360.out) hb)
                            have n14_ := Aside0.mk (blk_below (g := gb366) (o := .cells #[.int .i64 t361, .int .i64 t362, .bool t363] 29 (0, 0)) (by (with_reducible repeat (first | refine blk_drewN ?_ _ | refine blk_drew ?_ | refine blk_alloc ?_ _)); exact BK366.out) hb)
                            have n15_ := Aside0.mk (blk_below (g := gb372) (o := .cells #[.int .i64 t367, .int .i64 t368, .bool t369] 29 (0, 0)) (by (with_reducible repeat (first | refine blk_drewN ?_ _ | refine blk_drew ?_ | refine blk_alloc ?_ _)); exact BK372.out) hb)
                            have n16_ := Aside0.mk (below_step (by repeat (first | (with_reducible first | exact HB.out | apply below_alloc | apply pw_below_drewN | apply below_drew1 | refine below_set ?_ GE330.out | refine below_set ?_ GE331.out | refine below_set ?_ GE332.out | refine below_set ?_ GE333.out | refine below_set ?_ GE351.out | refine below_set ?_ GE360.out | refine below_set ?_ GE366.out | refine below_set ?_ GE372.out) | exact HB.out)) hb)
                            clear HO_352000
                            clear HO_352001
                            clear HO_361000
                            clear HO_361001
                            clear HO376
                            clear HO380
                            clear HO384
                            clear HO388
                            clear BK330
                            clear BK331
                            clear BK332
                            clear BK333
                            clear BK351
                            clear BK360
                            clear BK366
                            clear BK372
                            clear HB
                            have HO_352000 := n0_
                            have HO_352001 := n1_
                            have HO_361000 := n2_
                            have HO_361001 := n3_
                            have HO376 := n4_
                            have HO380 := n5_
                            have HO384 := n6_
                            have HO388 := n7_
                            have BK330 := n8_
                            have BK331 := n9_
                            have BK332 := n10_
                            have BK333 := n11_
                            have BK351 := n12_
                            have BK360 := n13_
                            have BK366 := n14_
                            have BK372 := n15_
                            have HB := n16_
                            clear n0_ n1_ n2_ n3_ n4_ n5_ n6_ n7_ n8_ n9_ n10_ n11_ n12_ n13_ n14_ n15_ n16_
                            (try clear hb)
                            (try clear hb2)
                            (try clear hk)
                            (try clear hi)
                            refine hK.out _ _ ⟨(blk_cell BK330.out 0).trans rfl, (blk_cell BK330.out 1).trans rfl, (blk_cell BK331.out 0).trans rfl, (blk_cell BK331.out 1).trans rfl, (blk_cell BK332.out 0).trans rfl, (blk_cell BK332.out 1).trans rfl, (blk_cell BK332.out 2).trans rfl, (blk_cell BK333.out 0).trans rfl, (blk_cell BK333.out 1).trans rfl, (blk_cell BK333.out 2).trans rfl, own_string (P := Try.prog) Try.underlying22 Try.underlying5 Try.underlying9 (Kd.own_of_R HO376.out), own_string (P := Try.prog) Try.underlying22 Try.underlying5 Try.underlying9 (Kd.own_of_R HO380.out), own_string (P := Try.prog) Try.underlying22 Try.underlying5 Try.underlying9 (Kd.own_of_R HO384.out), own_string (P := Try.prog) Try.underlying22 Try.underlying5 Try.underlying9 (Kd.own_of_R HO388.out)⟩ (fun hHeld => ?_)
                            clear hK K
                            refine norm_ (a' := ?_) ?_ ?_
                            rotate_left
                            · show Act.put _ (some 208) _ = _
                              simp only [Act.put, List.setIfInBounds_toArray, List.set_cons_zero, List.set_cons_succ, i64_w, i32_w]
                              rfl
                            refine pure_ (i := 48) (N := some 209) (v := ?_) (a' := ?_) #[true, true, true, true, true, true, true, true, true, true, true, true, true, true, true, true, true, true, true, true, true, true, true, true, true, true, true, true, true, true, true, true, true, true, true, true, true, true, true, true, true, true, true, true, true, true, true, true, true, false, false] rfl rfl (any_of HT_.out (by kernel_rfl)) (fun _ _ _ h => h) (Or.inl ⟨by rfl, ?_⟩) ?_ ?_
                            rotate_left
                            · intro w'
                              go_simp
                              with_reducible rfl
                            rotate_left
                            · simp only [Act.put, List.setIfInBounds_toArray, List.set_cons_zero, List.set_cons_succ, i64_w, i32_w]
                              rfl
                            refine pure_ (i := 49) (N := some 210) (v := ?_) (a' := ?_) #[true, true, true, true, true, true, true, true, true, true, true, true, true, true, true, true, true, true, true, true, true, true, true, true, true, true, true, true, true, true, true, true, true, true, true, true, true, true, true, true, true, true, true, true, true, true, true, true, true, true, false] rfl rfl (any_of HT_.out (by kernel_rfl)) (fun _ _ _ h => h) (Or.inl ⟨by rfl, ?_⟩) ?_ ?_
                            rotate_left
                            · intro w'
                              go_simp
                              with_reducible rfl
                            rotate_left
                            · simp only [Act.put, List.setIfInBounds_toArray, List.set_cons_zero, List.set_cons_succ, i64_w, i32_w]
                              rfl
                            refine pure_ (i := 50) (N := some 12) (v := ?_) (a' := ?_) #[true, true, true, true, true, true, true, true, true, true, true, true, true, true, true, true, true, true, true, true, true, true, true, true, true, true, true, true, true, true, true, true, true, true, true, true, true, true, true, true, true, true, true, true, true, true, true, true, true, true, true] rfl rfl (any_of HT_.out (by kernel_rfl)) (fun _ _ _ h => h) (Or.inl ⟨by rfl, ?_⟩) ?_ ?_
                            rotate_left
                            · intro w'
                              go_simp
                              with_reducible rfl
                            rotate_left
                            · simp only [Act.put, List.setIfInBounds_toArray, List.set_cons_zero, List.set_cons_succ, i64_w, i32_w]
                              rfl
                            refine done_ (done_of HT_.out (by kernel_rfl)) ?_
                            try go_wp2
                            go_ret
                            exact ⟨by first | rfl | (simp [errW_none, errW_some] <;> rfl) | (simp [*, errW_none, errW_some] <;> rfl), by repeat (first | (with_reducible first | exact HB.out | apply below_alloc | apply pw_below_drewN | apply below_drew1 | refine below_set ?_ GE330.out | refine below_set ?_ GE331.out | refine below_set ?_ GE332.out | refine below_set ?_ GE333.out | refine below_set ?_ GE351.out | refine below_set ?_ GE360.out | refine below_set ?_ GE366.out | refine below_set ?_ GE372.out) | exact HB.out)⟩
                          · rw [if_neg c129] at H
                            have c129b0 : (t392 == t393) = false := by simpa using c129
                            (try (have c129b1 : decide (t392 = t393) = false := by simpa using c129))
                            (try (have c129b2 : (t392 == t393) = false := by simpa using c129))
                            (try (have c129b3 : ¬ (t392 = t393) := by simpa using c129))
                            clear c129
                            exact absurd ((Option.some.inj H).trans HRT_.out) (by decide)
                        · rw [if_neg c126] at H
                          have c126b0 : (t390 == t391) = false := by simpa using c126
                          (try (have c126b1 : decide (t390 = t391) = false := by simpa using c126))
                          (try (have c126b2 : (t390 == t391) = false := by simpa using c126))
                          (try (have c126b3 : ¬ (t390 = t391) := by simpa using c126))
                          clear c126
                          exact absurd ((Option.some.inj H).trans HRT_.out) (by decide)
                      · rw [if_neg c123] at H
                        have c123b0 : (t385 == t389) = false := beq_eq_false_iff_ne.mpr c123
                        have c123b1 : (t385 != t389) = true := bne_iff_ne.mpr c123
                        exact absurd ((Option.some.inj H).trans HRT_.out) (by decide)
                    · rw [if_neg c122] at H
                      have c122b0 : ((strOfNums t382).toList == (strOfNums t386).toList) = false := beq_eq_false_iff_ne.mpr c122
                      have c122b1 : ((strOfNums t382).toList != (strOfNums t386).toList) = true := bne_iff_ne.mpr c122
                      exact absurd ((Option.some.inj H).trans HRT_.out) (by decide)
                  · rw [if_neg c121] at H
                    have c121b0 : (t377 == t381) = false := beq_eq_false_iff_ne.mpr c121
                    have c121b1 : (t377 != t381) = true := bne_iff_ne.mpr c121
                    exact absurd ((Option.some.inj H).trans HRT_.out) (by decide)
                · rw [if_neg c120] at H
                  have c120b0 : ((strOfNums t374).toList == (strOfNums t378).toList) = false := beq_eq_false_iff_ne.mpr c120
                  have c120b1 : ((strOfNums t374).toList != (strOfNums t378).toList) = true := bne_iff_ne.mpr c120
                  exact absurd ((Option.some.inj H).trans HRT_.out) (by decide)
              · replace c119 := Bool.eq_false_iff.mpr c119
                subst c119
                have H1 : (some false) = some r := by rw [if_neg (show ¬ (false = true) by decide)] at H; exact H
                clear H
                have H := H1
                clear H1
                exact absurd ((Option.some.inj H).trans HRT_.out) (by decide)

end Go.Proofs.Ythddcbfgdpfcjaa.G
