-- Made by gprint.py (mine) over the kit's print.py, out of the translation; parts of it typed by hand.
import Derived.Test.YtoeknjmdlmhajaaDoorG0
import Derived.Test.YtoeknjmdlmhajaaDoorG2
import Derived.Test.YtoeknjmdlmhajaaDoorG3
import Derived.Test.YtoeknjmdlmhajaaDoorG4
namespace Go.Proofs.YtoeknjmdlmhajaaDoor.G
open Go.RowKit Go.Proofs.YtoeknjmdlmhajaaDoorW.PrintWords Go.Proofs.YtoeknjmdlmhajaaDoorW.PrintLast Go.Proofs.YtoeknjmdlmhajaaDoorW.PrintMore
attribute [local go_sem] max2_int min2_int max_two min_two max_three min_three max_four min_four   -- for this text's walks alone
set_option linter.unusedVariables false
set_option linter.unusedSimpArgs false

/-! ### avocetlaw07_SectCustom: function 5 -/
mutual
def avocetlaw07_SectCustom.j0 : Nat → List (S36) → Int → ByteArray → List Int → Bool → Bool → Option (Bool)
  | 0, _, _, _, _, _, _ => none
  | k + 1, x0, x1, x2, x3, x9, x34 => if x34 = true then (some x9) else ((sect_Custom.f k x2 x3).bind fun bt221 => ((avocetlaw07_ours.f k x0).bind fun t227 => ((sect_Join.f k t227).bind fun bt230 => (if bt221.2.2 = 0 then (if bt230.2 = 0 then (avocetlaw07_SectCustom.j1 k x0 x1 x9 (decide ((bt230.1.length : Int) > 60000)) bt221.1 bt221.2.1) else (avocetlaw07_SectCustom.j1 k x0 x1 x9 true bt221.1 bt221.2.1)) else (avocetlaw07_SectCustom.j1 k x0 x1 x9 true bt221.1 bt221.2.1)))))
def avocetlaw07_SectCustom.j1 : Nat → List (S36) → Int → Bool → Bool → Int → List Int → Option (Bool)
  | 0, _, _, _, _, _, _ => none
  | k + 1, x0, x1, x9, x58, x227000, x227001 => if x58 = true then (some x9) else (if (wrap64 ((x0.length : Int) + 1)) = 0 then (none) else ((some (([] : List (S38)) : List (S38))).bind fun y234 => (if 0 ≤ (Int.tmod (Go.bits .and .i64 x1 65535) (wrap64 ((x0.length : Int) + 1))) then (if (Int.tmod (Go.bits .and .i64 x1 65535) (wrap64 ((x0.length : Int) + 1))) ≤ (x0.length : Int) then ((avocetlaw07_ours.f k (x0.take ((Int.tmod (Go.bits .and .i64 x1 65535) (wrap64 ((x0.length : Int) + 1))) : Int).toNat)).bind fun t241 => (if y234.length + t241.length < 4398046511104 then ((some (y234 ++ t241 : List (S38))).bind fun y244 => ((some (([(⟨x227000, x227001⟩ : S38)] : List (S38)) : List (S38))).bind fun y247 => (if y244.length + y247.length < 4398046511104 then ((some (y244 ++ y247 : List (S38))).bind fun y250 => ((avocetlaw07_ours.f k (x0.drop ((Int.tmod (Go.bits .and .i64 x1 65535) (wrap64 ((x0.length : Int) + 1))) : Int).toNat)).bind fun t257 => (if y250.length + t257.length < 4398046511104 then ((sect_Join.f k (y250 ++ t257)).bind fun bt263 => ((sect_Split.f k bt263.1).bind fun bt267 => (if bt263.2 = 0 then (if bt267.2 = 0 then (avocetlaw07_SectCustom.j2 k x0 x9 (Int.tmod (Go.bits .and .i64 x1 65535) (wrap64 ((x0.length : Int) + 1))) bt267.1 ((bt267.1.length : Int) != (wrap64 ((x0.length : Int) + 1))) x227000 x227001) else (avocetlaw07_SectCustom.j2 k x0 x9 (Int.tmod (Go.bits .and .i64 x1 65535) (wrap64 ((x0.length : Int) + 1))) bt267.1 true x227000 x227001)) else (avocetlaw07_SectCustom.j2 k x0 x9 (Int.tmod (Go.bits .and .i64 x1 65535) (wrap64 ((x0.length : Int) + 1))) bt267.1 true x227000 x227001)))) else (none)))) else (none)))) else (none))) else (none)) else (none))))
def avocetlaw07_SectCustom.j2 : Nat → List (S36) → Bool → Int → List (S38) → Bool → Int → List Int → Option (Bool)
  | 0, _, _, _, _, _, _, _ => none
  | k + 1, x0, x9, x14, x18, x103, x227000, x227001 => if x103 = true then (some false) else ((some (([] : List (S38)) : List (S38))).bind fun y271 => (if 0 ≤ x14 then (if x14 ≤ (x18.length : Int) then ((some (x18.take (x14 : Int).toNat : List (S38))).bind fun y274 => (if y271.length + y274.length < 4398046511104 then ((some (y271 ++ y274 : List (S38))).bind fun y279 => (if 0 ≤ (wrap64 (x14 + 1)) then (if (wrap64 (x14 + 1)) ≤ (x18.length : Int) then ((some (x18.drop ((wrap64 (x14 + 1)) : Int).toNat : List (S38))).bind fun y282 => (if y279.length + y282.length < 4398046511104 then (if x9 = true then ((avocetlaw07_theirs.f k (y279 ++ y282)).bind fun t290 => ((avocetref07_Same.f k t290 x0).bind fun t293 => (if t293 = true then (if x14 < (x18.length : Int) then (if ((rd_T38 x18 x14).f0) = 0 then (some ((strOfNums ((rd_T38 x18 x14).f1)).toList == (strOfNums x227001).toList)) else (some false)) else (none)) else (some false)))) else (some false)) else (none))) else (none)) else (none))) else (none))) else (none)) else (none)))
end
def avocetlaw07_SectCustom.f (k : Nat) (l0 : List (S36)) (a1 : Int) (a2 : ByteArray) (l3 : List Int) : Option (Bool) := (avocetlaw07_awake.f k).bind fun t219 => ((avocetref07_Few.f k l0).bind fun t220 => (if t220 = true then (if (a2.size : Int) > 200 then (avocetlaw07_SectCustom.j0 k l0 a1 a2 l3 t219 true) else (avocetlaw07_SectCustom.j0 k l0 a1 a2 l3 t219 (decide ((l3.length : Int) > 200)))) else (avocetlaw07_SectCustom.j0 k l0 a1 a2 l3 t219 true)))
theorem avocetlaw07_SectCustom.mono_l : ∀ k, (∀ y0 y1 y2 y3 y4 y5, LeO (avocetlaw07_SectCustom.j0 k y0 y1 y2 y3 y4 y5) (avocetlaw07_SectCustom.j0 (k + 1) y0 y1 y2 y3 y4 y5)) ∧ (∀ y0 y1 y2 y3 y4 y5, LeO (avocetlaw07_SectCustom.j1 k y0 y1 y2 y3 y4 y5) (avocetlaw07_SectCustom.j1 (k + 1) y0 y1 y2 y3 y4 y5)) ∧ (∀ y0 y1 y2 y3 y4 y5 y6, LeO (avocetlaw07_SectCustom.j2 k y0 y1 y2 y3 y4 y5 y6) (avocetlaw07_SectCustom.j2 (k + 1) y0 y1 y2 y3 y4 y5 y6))
  | 0 => ⟨fun _ _ _ _ _ _ r h => by simp [avocetlaw07_SectCustom.j0] at h, fun _ _ _ _ _ _ r h => by simp [avocetlaw07_SectCustom.j1] at h, fun _ _ _ _ _ _ _ r h => by simp [avocetlaw07_SectCustom.j2] at h⟩
  | k + 1 => by
    obtain ⟨ih0, ih1, ih2⟩ := avocetlaw07_SectCustom.mono_l k
    refine ⟨?_, ?_, ?_⟩
    · intro y0 y1 y2 y3 y4 y5
      unfold avocetlaw07_SectCustom.j0
      repeat' first
      | (with_reducible exact ih0 _ _ _ _ _ _)
      | (with_reducible exact ih1 _ _ _ _ _ _)
      | (with_reducible exact ih2 _ _ _ _ _ _ _)
      | (with_reducible exact avocetlaw07_awake.mono _)
      | (with_reducible exact avocetlaw07_ours.mono _ _)
      | (with_reducible exact avocetlaw07_theirs.mono _ _)
      | (with_reducible exact avocetref07_Few.mono _ _)
      | (with_reducible exact avocetref07_Same.mono _ _ _)
      | (with_reducible exact sect_Custom.mono _ _ _)
      | (with_reducible exact sect_Join.mono _ _)
      | (with_reducible exact sect_Split.mono _ _)
      | (with_reducible exact LeO.refl _)
      | (with_reducible exact LeO.none _)
      | (with_reducible refine LeO.ite ?_ ?_)
      | (with_reducible refine LeO.bind ?_ (fun _ => ?_))
      | exact ih0 _ _ _ _ _ _
      | exact ih1 _ _ _ _ _ _
      | exact ih2 _ _ _ _ _ _ _
      | exact avocetlaw07_awake.mono _
      | exact avocetlaw07_ours.mono _ _
      | exact avocetlaw07_theirs.mono _ _
      | exact avocetref07_Few.mono _ _
      | exact avocetref07_Same.mono _ _ _
      | exact sect_Custom.mono _ _ _
      | exact sect_Join.mono _ _
      | exact sect_Split.mono _ _
      | exact LeO.none _
      | refine LeO.ite ?_ ?_
      | refine LeO.bind ?_ (fun _ => ?_)
    · intro y0 y1 y2 y3 y4 y5
      unfold avocetlaw07_SectCustom.j1
      repeat' first
      | (with_reducible exact ih0 _ _ _ _ _ _)
      | (with_reducible exact ih1 _ _ _ _ _ _)
      | (with_reducible exact ih2 _ _ _ _ _ _ _)
      | (with_reducible exact avocetlaw07_awake.mono _)
      | (with_reducible exact avocetlaw07_ours.mono _ _)
      | (with_reducible exact avocetlaw07_theirs.mono _ _)
      | (with_reducible exact avocetref07_Few.mono _ _)
      | (with_reducible exact avocetref07_Same.mono _ _ _)
      | (with_reducible exact sect_Custom.mono _ _ _)
      | (with_reducible exact sect_Join.mono _ _)
      | (with_reducible exact sect_Split.mono _ _)
      | (with_reducible exact LeO.refl _)
      | (with_reducible exact LeO.none _)
      | (with_reducible refine LeO.ite ?_ ?_)
      | (with_reducible refine LeO.bind ?_ (fun _ => ?_))
      | exact ih0 _ _ _ _ _ _
      | exact ih1 _ _ _ _ _ _
      | exact ih2 _ _ _ _ _ _ _
      | exact avocetlaw07_awake.mono _
      | exact avocetlaw07_ours.mono _ _
      | exact avocetlaw07_theirs.mono _ _
      | exact avocetref07_Few.mono _ _
      | exact avocetref07_Same.mono _ _ _
      | exact sect_Custom.mono _ _ _
      | exact sect_Join.mono _ _
      | exact sect_Split.mono _ _
      | exact LeO.none _
      | refine LeO.ite ?_ ?_
      | refine LeO.bind ?_ (fun _ => ?_)
    · intro y0 y1 y2 y3 y4 y5 y6
      unfold avocetlaw07_SectCustom.j2
      repeat' first
      | (with_reducible exact ih0 _ _ _ _ _ _)
      | (with_reducible exact ih1 _ _ _ _ _ _)
      | (with_reducible exact ih2 _ _ _ _ _ _ _)
      | (with_reducible exact avocetlaw07_awake.mono _)
      | (with_reducible exact avocetlaw07_ours.mono _ _)
      | (with_reducible exact avocetlaw07_theirs.mono _ _)
      | (with_reducible exact avocetref07_Few.mono _ _)
      | (with_reducible exact avocetref07_Same.mono _ _ _)
      | (with_reducible exact sect_Custom.mono _ _ _)
      | (with_reducible exact sect_Join.mono _ _)
      | (with_reducible exact sect_Split.mono _ _)
      | (with_reducible exact LeO.refl _)
      | (with_reducible exact LeO.none _)
      | (with_reducible refine LeO.ite ?_ ?_)
      | (with_reducible refine LeO.bind ?_ (fun _ => ?_))
      | exact ih0 _ _ _ _ _ _
      | exact ih1 _ _ _ _ _ _
      | exact ih2 _ _ _ _ _ _ _
      | exact avocetlaw07_awake.mono _
      | exact avocetlaw07_ours.mono _ _
      | exact avocetlaw07_theirs.mono _ _
      | exact avocetref07_Few.mono _ _
      | exact avocetref07_Same.mono _ _ _
      | exact sect_Custom.mono _ _ _
      | exact sect_Join.mono _ _
      | exact sect_Split.mono _ _
      | exact LeO.none _
      | refine LeO.ite ?_ ?_
      | refine LeO.bind ?_ (fun _ => ?_)
theorem avocetlaw07_SectCustom.mono : ∀ a0 a1 a2 a3 k, LeO (avocetlaw07_SectCustom.f k a0 a1 a2 a3) (avocetlaw07_SectCustom.f (k + 1) a0 a1 a2 a3) := by
  intro a0 a1 a2 a3 k
  obtain ⟨ih0, ih1, ih2⟩ := avocetlaw07_SectCustom.mono_l k
  unfold avocetlaw07_SectCustom.f
  repeat' first
      | (with_reducible exact ih0 _ _ _ _ _ _)
      | (with_reducible exact ih1 _ _ _ _ _ _)
      | (with_reducible exact ih2 _ _ _ _ _ _ _)
      | (with_reducible exact avocetlaw07_awake.mono _)
      | (with_reducible exact avocetlaw07_ours.mono _ _)
      | (with_reducible exact avocetlaw07_theirs.mono _ _)
      | (with_reducible exact avocetref07_Few.mono _ _)
      | (with_reducible exact avocetref07_Same.mono _ _ _)
      | (with_reducible exact sect_Custom.mono _ _ _)
      | (with_reducible exact sect_Join.mono _ _)
      | (with_reducible exact sect_Split.mono _ _)
      | (with_reducible exact LeO.refl _)
      | (with_reducible exact LeO.none _)
      | (with_reducible refine LeO.ite ?_ ?_)
      | (with_reducible refine LeO.bind ?_ (fun _ => ?_))
      | exact ih0 _ _ _ _ _ _
      | exact ih1 _ _ _ _ _ _
      | exact ih2 _ _ _ _ _ _ _
      | exact avocetlaw07_awake.mono _
      | exact avocetlaw07_ours.mono _ _
      | exact avocetlaw07_theirs.mono _ _
      | exact avocetref07_Few.mono _ _
      | exact avocetref07_Same.mono _ _ _
      | exact sect_Custom.mono _ _ _
      | exact sect_Join.mono _ _
      | exact sect_Split.mono _ _
      | exact LeO.none _
      | refine LeO.ite ?_ ?_
      | refine LeO.bind ?_ (fun _ => ?_)
def avocetlaw07_SectCustom.T9 : Bool × List (List Nat × List Nat) := (true, [([], []), ([], []), ([], []), ([1, 2], [1, 2]), ([3], [3]), ([0, 4, 4], [0, 4]), ([], []), ([6], [6]), ([5, 7, 5], [5, 7]), ([], []), ([], []), ([9, 10], [9, 10]), ([11, 8], [11]), ([8, 12, 12], [8, 12]), ([13, 13, 0, 1, 2, 3, 4, 5, 6, 7, 8, 9, 10, 11, 12, 13], [13])])
def avocetlaw07_SectCustom.B9 : List Nat := [0, 0, 0, 6, 14, 31, 0, 64, 255, 0, 0, 1536, 4095, 8191, 16383]
theorem avocetlaw07_SectCustom.tab9 : rtab .any (opsOf Tryd.f5 9) = avocetlaw07_SectCustom.T9 := by kernel_rfl
theorem avocetlaw07_SectCustom.bits9 : waitsOk avocetlaw07_SectCustom.T9.2 avocetlaw07_SectCustom.B9 = true := by kernel_rfl
def avocetlaw07_SectCustom.T14 : Bool × List (List Nat × List Nat) := (true, [([], []), ([], []), ([], []), ([1, 2], [1, 2]), ([0, 3], [0, 3]), ([], []), ([], []), ([6], [6]), ([5, 7], [5, 7]), ([4, 8, 4], [4, 8]), ([9, 9, 0, 1, 2, 3, 4, 5, 6, 7, 8, 9], [9])])
def avocetlaw07_SectCustom.B14 : List Nat := [0, 0, 0, 6, 15, 0, 0, 64, 224, 511, 1023]
theorem avocetlaw07_SectCustom.tab14 : rtab .any (opsOf Tryd.f5 14) = avocetlaw07_SectCustom.T14 := by kernel_rfl
theorem avocetlaw07_SectCustom.bits14 : waitsOk avocetlaw07_SectCustom.T14.2 avocetlaw07_SectCustom.B14 = true := by kernel_rfl
def avocetlaw07_SectCustom.T15 : Bool × List (List Nat × List Nat) := (true, [([], []), ([0], [0]), ([1], [1]), ([2, 1, 1], [1, 2]), ([1], [1]), ([3, 4, 3, 1], [1, 3, 4]), ([1, 5], [1, 5]), ([6, 5], [6]), ([7], [7]), ([7], [7]), ([8, 9, 7], [7, 8, 9]), ([10, 7], [7, 10]), ([11, 7], [7, 11]), ([12, 7], [7, 12]), ([7, 13], [7, 13]), ([14, 7], [14]), ([15], [15]), ([15], [15]), ([16, 17, 15], [15, 16, 17]), ([18, 15], [15, 18]), ([19, 15], [15, 19]), ([20, 15], [15, 20]), ([15], [15]), ([22, 15], [15, 22]), ([23, 15], [15, 23]), ([21, 24, 15], [15, 21, 24]), ([15, 25], [15, 25]), ([26, 15, 0, 1, 2, 3, 4, 5, 6, 7, 8, 9, 10, 11, 12, 13, 14, 15, 16, 17, 18, 19, 20, 21, 22, 23, 24, 25, 26], [26])])
def avocetlaw07_SectCustom.B15 : List Nat := [0, 1, 3, 7, 3, 31, 63, 127, 255, 255, 1023, 2047, 4095, 8191, 16383, 32767, 65535, 65535, 262143, 524287, 1048575, 2097151, 65535, 4259839, 12648447, 33554431, 67108863, 134217727]
theorem avocetlaw07_SectCustom.tab15 : rtab .any (opsOf Tryd.f5 15) = avocetlaw07_SectCustom.T15 := by kernel_rfl
theorem avocetlaw07_SectCustom.bits15 : waitsOk avocetlaw07_SectCustom.T15.2 avocetlaw07_SectCustom.B15 = true := by kernel_rfl
set_option maxHeartbeats 8000000 in
set_option maxRecDepth 100000 in
theorem avocetlaw07_SectCustom.calls (k : Nat) (A0 : Option Addr) (c0 : Nat) (l0 : List (S36)) (a1 : Int) (a2 : ByteArray) (A3 : Option Addr) (c3 : Nat) (l3 : List Int) (r : Bool) (w : World) (hG : Globs w) (hr0 : Kd.C k36 w A0 l0.length l0) (hc0 : l0.length ≤ c0) (hr3 : Kd.C (Kd.int .u8) w A3 l3.length l3) (hc3 : l3.length ≤ c3) (hr_ : r = true) (h : avocetlaw07_SectCustom.f k l0 a1 a2 l3 = some r) :
    Calls Tryd.prog 5 #[.slice A0 l0.length c0, .int .i64 a1, .string a2, .slice A3 l3.length c3] w fun e w' => e = .returned (.bool r) ∧ Below w.heap.size w w' := by
  have HRT_ := Aside0.mk hr_
  clear hr_
  have hu38 := Tryd.underlying38
  have HG := Aside0.mk hG
  clear hG
  have HR0 := Aside0.mk hr0
  have HC0 := Aside0.mk hc0
  clear hr0 hc0
  have HR3 := Aside0.mk hr3
  have HC3 := Aside0.mk hc3
  clear hr3 hc3
  have HB := Aside0.mk (Below.refl w.heap.size w)
  have H : ((avocetlaw07_awake.f k).bind fun t219 => ((avocetref07_Few.f k l0).bind fun t220 => (if t220 = true then (if (a2.size : Int) > 200 then (avocetlaw07_SectCustom.j0 k l0 a1 a2 l3 t219 true) else (avocetlaw07_SectCustom.j0 k l0 a1 a2 l3 t219 (decide ((l3.length : Int) > 200)))) else (avocetlaw07_SectCustom.j0 k l0 a1 a2 l3 t219 true)))) = some r := h
  clear h
  replace H := Option.bind_eq_some_iff.mp H
  obtain ⟨t219, A50, H⟩ := H
  replace H : ((avocetref07_Few.f k l0).bind fun t220 => (if t220 = true then (if (a2.size : Int) > 200 then (avocetlaw07_SectCustom.j0 k l0 a1 a2 l3 t219 true) else (avocetlaw07_SectCustom.j0 k l0 a1 a2 l3 t219 (decide ((l3.length : Int) > 200)))) else (avocetlaw07_SectCustom.j0 k l0 a1 a2 l3 t219 true))) = some r := H
  have A5 := Aside0.mk A50
  clear A50
  have HC6 := Aside0.mk H
  clear H
  go_enter Tryd.func5, Tryd.ntmps5
  go_upto_region 2 with (first | ((with_reducible refine gate_callee (f := 9) rfl ?_); refine goesL_ (some 21) rfl rfl Tryd.func9 (by kernel_rfl) rfl #[] rfl (by (try simp only [List.map_toArray, List.map_cons, List.map_nil]); first | done | rfl | (simp only [List.length_drop, List.length_take]; rfl)) ?_; (with_reducible refine (avocetlaw07_awake.calls k  t219 _ ?side1 A5.out).mono ?_); (case side1 => first | exact Globs.below HG.out HB.out | exact Globs.below HG.out (by repeat (first | (with_reducible first | exact HB.out | apply below_alloc | apply pw_below_drewN | apply below_drew1) | exact HB.out)) | (repeat (first | exact HG.out | (with_reducible refine Globs.alloc ?_ _) | (with_reducible refine Globs.drewN ?_ _) | (with_reducible refine Globs.drew ?_)))); rintro e w7 ⟨rfl, hb⟩; refine ⟨_, rfl, ?_⟩; have n0_ := Aside0.mk (below_step (by repeat (first | (with_reducible first | exact HB.out | apply below_alloc | apply pw_below_drewN | apply below_drew1) | exact HB.out)) hb); clear HB; have HB := n0_; clear n0_; (try clear hb); (try clear hb2); (try clear hk); (try clear hi)))
  (try simp only [Act.put, List.setIfInBounds_toArray, List.set_cons_zero, List.set_cons_succ])
  go_cut [34] (fun v34 wc => ∃ (kq : Nat) (x34_5 : Bool), v34 = .bool x34_5 ∧ Aside0 (avocetlaw07_SectCustom.j0 kq l0 a1 a2 l3 t219 x34_5 = some r) ∧ Aside0 (kq ≤ k) ∧ Aside0 (Below w.heap.size w wc))
  case first =>
    have H := HC6.out
    clear HC6
    replace H := Option.bind_eq_some_iff.mp H
    obtain ⟨t220, A80, H⟩ := H
    replace H : (if t220 = true then (if (a2.size : Int) > 200 then (avocetlaw07_SectCustom.j0 k l0 a1 a2 l3 t219 true) else (avocetlaw07_SectCustom.j0 k l0 a1 a2 l3 t219 (decide ((l3.length : Int) > 200)))) else (avocetlaw07_SectCustom.j0 k l0 a1 a2 l3 t219 true)) = some r := H
    have A8 := Aside0.mk A80
    clear A80
    by_cases c9 : t220 = true
    · subst c9
      have H1 : (if (a2.size : Int) > 200 then (avocetlaw07_SectCustom.j0 k l0 a1 a2 l3 t219 true) else (avocetlaw07_SectCustom.j0 k l0 a1 a2 l3 t219 (decide ((l3.length : Int) > 200)))) = some r := by rw [if_pos rfl] at H; exact H
      clear H
      have H := H1
      clear H1
      by_cases c10 : (a2.size : Int) > 200
      · rw [if_pos c10] at H
        have c10b0 : decide (200 < (a2.size : Int)) = true := decide_eq_true c10
        have c10b1 : decide (200 < a2.size) = true := decide_eq_true (by omega)
        clear c10
        (first | rw [c10b0] | (simp only [i64_w, i32_w]; rw [c10b0]) | skip)
        have H' := Aside0.mk H
        clear H
        go_wp2_with (first | ((with_reducible refine gate_callee (f := 10) rfl ?_); refine goesL_ (some 23) rfl rfl Tryd.func10 (by kernel_rfl) rfl #[.slice A0 l0.length c0] rfl (by (try simp only [List.map_toArray, List.map_cons, List.map_nil]); first | done | rfl | (simp only [List.length_drop, List.length_take]; rfl)) ?_; (with_reducible refine (avocetref07_Few.calls k _ _ l0 true _ ?side1 ?side2 A8.out).mono ?_); (case side1 => repeat (first | exact (Kd.C_below HR0.out HB.out) | (with_reducible refine Kd.C_alloc ?_ _) | (with_reducible refine Kd.C_drewN ?_ _) | (with_reducible refine Kd.C_drew ?_))); (case side2 => exact HC0.out); rintro e w' ⟨rfl, ⟨nd, rfl⟩⟩; refine ⟨_, rfl, ?_⟩))
        go_meet
        case rel => exact ⟨_, (true), (by first | rfl | (simp; done) | (simp [*]; done)), H', ⟨by first | omega | exact Nat.le_refl _⟩, ⟨by repeat (first | (with_reducible first | exact HB.out | apply below_alloc | apply pw_below_drewN | apply below_drew1) | exact HB.out)⟩⟩
      · rw [if_neg c10] at H
        have c10b0 : decide (200 < (a2.size : Int)) = false := decide_eq_false c10
        have c10b1 : decide (200 < a2.size) = false := decide_eq_false (by omega)
        clear c10
        (first | rw [c10b0] | (simp only [i64_w, i32_w]; rw [c10b0]) | skip)
        have H' := Aside0.mk H
        clear H
        go_wp2_with (first | ((with_reducible refine gate_callee (f := 10) rfl ?_); refine goesL_ (some 23) rfl rfl Tryd.func10 (by kernel_rfl) rfl #[.slice A0 l0.length c0] rfl (by (try simp only [List.map_toArray, List.map_cons, List.map_nil]); first | done | rfl | (simp only [List.length_drop, List.length_take]; rfl)) ?_; (with_reducible refine (avocetref07_Few.calls k _ _ l0 true _ ?side1 ?side2 A8.out).mono ?_); (case side1 => repeat (first | exact (Kd.C_below HR0.out HB.out) | (with_reducible refine Kd.C_alloc ?_ _) | (with_reducible refine Kd.C_drewN ?_ _) | (with_reducible refine Kd.C_drew ?_))); (case side2 => exact HC0.out); rintro e w' ⟨rfl, ⟨nd, rfl⟩⟩; refine ⟨_, rfl, ?_⟩))
        go_meet
        case rel => exact ⟨_, (decide ((l3.length : Int) > 200)), (by first | rfl | (simp; done) | (simp [*]; done)), H', ⟨by first | omega | exact Nat.le_refl _⟩, ⟨by repeat (first | (with_reducible first | exact HB.out | apply below_alloc | apply pw_below_drewN | apply below_drew1) | exact HB.out)⟩⟩
    · replace c9 := Bool.eq_false_iff.mpr c9
      subst c9
      have H1 : (avocetlaw07_SectCustom.j0 k l0 a1 a2 l3 t219 true) = some r := by rw [if_neg (show ¬ (false = true) by decide)] at H; exact H
      clear H
      have H := H1
      clear H1
      have H' := Aside0.mk H
      clear H
      go_wp2_with (first | ((with_reducible refine gate_callee (f := 10) rfl ?_); refine goesL_ (some 23) rfl rfl Tryd.func10 (by kernel_rfl) rfl #[.slice A0 l0.length c0] rfl (by (try simp only [List.map_toArray, List.map_cons, List.map_nil]); first | done | rfl | (simp only [List.length_drop, List.length_take]; rfl)) ?_; (with_reducible refine (avocetref07_Few.calls k _ _ l0 false _ ?side1 ?side2 A8.out).mono ?_); (case side1 => repeat (first | exact (Kd.C_below HR0.out HB.out) | (with_reducible refine Kd.C_alloc ?_ _) | (with_reducible refine Kd.C_drewN ?_ _) | (with_reducible refine Kd.C_drew ?_))); (case side2 => exact HC0.out); rintro e w' ⟨rfl, ⟨nd, rfl⟩⟩; refine ⟨_, rfl, ?_⟩))
      go_meet
      case rel => exact ⟨_, (true), (by first | rfl | (simp; done) | (simp [*]; done)), H', ⟨by first | omega | exact Nat.le_refl _⟩, ⟨by repeat (first | (with_reducible first | exact HB.out | apply below_alloc | apply pw_below_drewN | apply below_drew1) | exact HB.out)⟩⟩
  case rest =>
    clear HC6
    try clear c1
    try clear p2
    try clear c3
    try clear c5
    try clear c9
    try clear c10
    try clear c10b0
    try clear c10b1
    obtain ⟨kq, x34_5, rfl, HA, HJ5, HB⟩ := hcut
    cases kq with
    | zero => exact absurd HA.out (by simp [avocetlaw07_SectCustom.j0])
    | succ kj5 =>
      have H := HA.out
      clear HA
      simp only [avocetlaw07_SectCustom.j0] at H
      by_cases c11 : x34_5 = true
      · subst c11
        have H1 : (some t219) = some r := by rw [if_pos rfl] at H; exact H
        clear H
        have H := H1
        clear H1
        obtain rfl := Option.some.inj H
        go_wp2
        go_ret
        exact ⟨by first | rfl | (simp [errW_none, errW_some] <;> rfl) | (simp [*, errW_none, errW_some] <;> rfl), by repeat (first | (with_reducible first | exact HB.out | apply below_alloc | apply pw_below_drewN | apply below_drew1) | exact HB.out)⟩
      · replace c11 := Bool.eq_false_iff.mpr c11
        subst c11
        have H1 : ((sect_Custom.f kj5 a2 l3).bind fun bt221 => ((avocetlaw07_ours.f kj5 l0).bind fun t227 => ((sect_Join.f kj5 t227).bind fun bt230 => (if bt221.2.2 = 0 then (if bt230.2 = 0 then (avocetlaw07_SectCustom.j1 kj5 l0 a1 t219 (decide ((bt230.1.length : Int) > 60000)) bt221.1 bt221.2.1) else (avocetlaw07_SectCustom.j1 kj5 l0 a1 t219 true bt221.1 bt221.2.1)) else (avocetlaw07_SectCustom.j1 kj5 l0 a1 t219 true bt221.1 bt221.2.1))))) = some r := by rw [if_neg (show ¬ (false = true) by decide)] at H; exact H
        clear H
        have H := H1
        clear H1
        replace H := Option.bind_eq_some_iff.mp H
        obtain ⟨⟨t221, t222, t225⟩, A120, H⟩ := H
        replace H : ((avocetlaw07_ours.f kj5 l0).bind fun t227 => ((sect_Join.f kj5 t227).bind fun bt230 => (if t225 = 0 then (if bt230.2 = 0 then (avocetlaw07_SectCustom.j1 kj5 l0 a1 t219 (decide ((bt230.1.length : Int) > 60000)) t221 t222) else (avocetlaw07_SectCustom.j1 kj5 l0 a1 t219 true t221 t222)) else (avocetlaw07_SectCustom.j1 kj5 l0 a1 t219 true t221 t222)))) = some r := H
        have A12 := Aside0.mk A120
        clear A120
        replace H := Option.bind_eq_some_iff.mp H
        obtain ⟨t227, A130, H⟩ := H
        replace H : ((sect_Join.f kj5 t227).bind fun bt230 => (if t225 = 0 then (if bt230.2 = 0 then (avocetlaw07_SectCustom.j1 kj5 l0 a1 t219 (decide ((bt230.1.length : Int) > 60000)) t221 t222) else (avocetlaw07_SectCustom.j1 kj5 l0 a1 t219 true t221 t222)) else (avocetlaw07_SectCustom.j1 kj5 l0 a1 t219 true t221 t222))) = some r := H
        have A13 := Aside0.mk A130
        clear A130
        replace H := Option.bind_eq_some_iff.mp H
        obtain ⟨⟨t230, t233⟩, A140, H⟩ := H
        replace H : (if t225 = 0 then (if t233 = 0 then (avocetlaw07_SectCustom.j1 kj5 l0 a1 t219 (decide ((t230.length : Int) > 60000)) t221 t222) else (avocetlaw07_SectCustom.j1 kj5 l0 a1 t219 true t221 t222)) else (avocetlaw07_SectCustom.j1 kj5 l0 a1 t219 true t221 t222)) = some r := H
        have A14 := Aside0.mk A140
        clear A140
        have HC15 := Aside0.mk H
        clear H
        go_upto_region 6 with (first | ((with_reducible refine gate_callee (f := 16) rfl ?_); refine goesL_ (some 39) rfl rfl Tryd.func16 (by kernel_rfl) rfl #[.string a2, .slice A3 l3.length c3] rfl (by (try simp only [List.map_toArray, List.map_cons, List.map_nil]); first | done | rfl | (simp only [List.length_drop, List.length_take]; rfl)) ?_; (with_reducible refine (sect_Custom.calls kj5 a2 _ _ l3 t221 t222 t225 _ ?side3 ?side1 ?side2 A12.out).mono ?_); (case side1 => repeat (first | exact (Kd.C_below HR3.out HB.out) | (with_reducible refine Kd.C_alloc ?_ _) | (with_reducible refine Kd.C_drewN ?_ _) | (with_reducible refine Kd.C_drew ?_))); (case side2 => exact HC3.out); (case side3 => first | exact Globs.below HG.out HB.out | exact Globs.below HG.out (by repeat (first | (with_reducible first | exact HB.out | apply below_alloc | apply pw_below_drewN | apply below_drew1) | exact HB.out)) | (repeat (first | exact HG.out | (with_reducible refine Globs.alloc ?_ _) | (with_reducible refine Globs.drewN ?_ _) | (with_reducible refine Globs.drew ?_)))); rintro e w16 ⟨v223, rfl, ho0, hb⟩; refine ⟨_, rfl, ?_⟩; have n0_ := Aside0.mk (Kd.V_lower (Kd.V_mono (ok' := fun k_ => True) ho0 (fun k_ hk_ => trivial)) (below_size (by repeat (first | (with_reducible first | exact HB.out | apply below_alloc | apply pw_below_drewN | apply below_drew1) | exact HB.out)))); have n1_ := Aside0.mk (below_step (by repeat (first | (with_reducible first | exact HB.out | apply below_alloc | apply pw_below_drewN | apply below_drew1) | exact HB.out)) hb); clear HB; have HO224 := n0_; have HB := n1_; clear n0_ n1_; (try clear hb); (try clear hb2); (try clear hk); (try clear hi); (try clear ho0)) | ((with_reducible refine gate_dst (N := 10) rfl ?_); (try (refine gate_guard (by rfl) ?_; dsimp only)); refine box_event ?hg (N := 10) ?hd (cs := #[.int .i64 0, .slice none 0 0]) (t := 38) ?hr ?_; (case hd => rfl); (case hg => rfl); (case hr => first | (go_simp; done) | (go_simp; rfl)); intro gb226 hg w17 hbox hb; have n0_ := Aside0.mk (Kd.V_below (Kd.V_elderB (by (with_reducible repeat (first | apply Kd.V_alloc | apply Kd.V_drewN | apply Kd.V_drew)); exact HO224.out) gb226 (Nat.le_of_eq hg.symm)) hb); have n1_ := Aside0.mk (below_step (by repeat (first | (with_reducible first | exact HB.out | apply below_alloc | apply pw_below_drewN | apply below_drew1) | exact HB.out)) hb); have n2_ := Aside0.mk (hbox); have n3_ := Aside0.mk ((by rw [hg]; exact (below_size (by repeat (first | (with_reducible first | exact HB.out | apply below_alloc | apply pw_below_drewN | apply below_drew1) | exact HB.out))) : w.heap.size ≤ gb226)); have n4_ := Aside0.mk ((by rw [hg]; exact (below_size (by repeat (first | (with_reducible first | exact HB.out | apply below_alloc | apply pw_below_drewN | apply below_drew1) | exact HB.out))) : w.heap.size ≤ gb226)); clear HO224; clear HB; have HO224 := n0_; have HB := n1_; have BK226 := n2_; have GW226 := n3_; have GE226 := n4_; clear n0_ n1_ n2_ n3_ n4_; clear hb hbox hg; have hcz18_0 : w17.cell? ⟨gb226, 0, none⟩ = some (.int .i64 0) := (blk_cell BK226.out 0).trans rfl; have hcz18_1 : w17.cell? ⟨gb226, 1, none⟩ = some (.slice none 0 0) := (blk_cell BK226.out 1).trans rfl; have hfz18_0 := blk_frozen BK226.out 0; have hfz18_1 := blk_frozen BK226.out 1; obtain ⟨Ao19, co19, eo19⟩ := Kd.V_slice HO224.out; subst eo19) | ((with_reducible refine gate_store (t := 38) (p := 10) rfl ?_); refine store_event (t := 38) (p := 10) (v := ?vo_w20) (w1 := ((w17.setCell ⟨gb226, 0, none⟩ (.int .i64 t221)).setCell ⟨gb226, 1, none⟩ (.slice Ao19 t222.length co19))) ?hg ?ho ?hn ?hr ?_; (case ho => rfl); (case hg => rfl); (case hn => rfl); (case hr => first | (go_simp; done) | (go_simp; rfl)); intro w20 hw; have n0_ : Aside0 (Kd.V (Kd.int .u8) 5 w20 w.heap.size (fun k_ => k_ ≠ gb226) (.slice Ao19 t222.length co19) t222) := ⟨(by rw [hw]; exact (by (with_reducible repeat (first | apply Kd.V_alloc | apply Kd.V_drewN | apply Kd.V_drew)); exact Kd.V_mono (Kd.V_far (p := ⟨gb226, 1, none⟩) (Kd.V_far (p := ⟨gb226, 0, none⟩) (Kd.V_mono HO224.out (fun k_ hk => (⟨hk, hk.2⟩ : _ ∧ k_ ≠ gb226))) (fun _ hk => hk.2) (.int .i64 t221)) (fun _ hk => hk.2) (.slice Ao19 t222.length co19)) (fun _ hk => hk.1.2)))⟩; have n1_ : Aside0 (w20.heap[gb226]? = some (.cells #[.int .i64 t221, .slice Ao19 t222.length co19] 38 (0, 0))) := ⟨(by rw [hw]; exact (by (with_reducible repeat (first | refine blk_drewN ?_ _ | refine blk_drew ?_ | refine blk_alloc ?_ _)); refine blk_put (cs := #[.int .i64 t221, .slice none 0 0]) ?_ 1 _ rfl; (with_reducible repeat (first | refine blk_drewN ?_ _ | refine blk_drew ?_ | refine blk_alloc ?_ _)); refine blk_put (cs := #[.int .i64 0, .slice none 0 0]) ?_ 0 _ rfl; (with_reducible repeat (first | refine blk_drewN ?_ _ | refine blk_drew ?_ | refine blk_alloc ?_ _)); exact BK226.out))⟩; have n2_ : Aside0 (Below w.heap.size w w20) := ⟨(by rw [hw]; exact (by repeat (first | (with_reducible first | exact HB.out | apply below_alloc | apply pw_below_drewN | apply below_drew1 | refine below_set ?_ GE226.out) | exact HB.out)))⟩; clear hw; clear HO224; clear BK226; clear HB; have HO224 := n0_; have BK226 := n1_; have HB := n2_; clear n0_ n1_ n2_) | ((with_reducible refine gate_callee (f := 12) rfl ?_); refine goesL_ (some 44) rfl rfl Tryd.func12 (by kernel_rfl) rfl #[.slice A0 l0.length c0] rfl (by (try simp only [List.map_toArray, List.map_cons, List.map_nil]); first | done | rfl | (simp only [List.length_drop, List.length_take]; rfl)) ?_; (with_reducible refine (avocetlaw07_ours.calls kj5 (fun k_ => k_ < w.heap.size) _ _ l0 t227 _ ?side1 A13.out).mono ?_); (case side1 => exact Kd.V_mk HC0.out (Kd.F_below (Kd.C_F k36_heap HR0.out) (by repeat (first | (with_reducible first | exact HB.out | apply below_alloc | apply pw_below_drewN | apply below_drew1 | refine below_set ?_ GE226.out) | exact HB.out)))); rintro e w21 ⟨v228, rfl, ho0, hb⟩; refine ⟨_, rfl, ?_⟩; have n0_ := Aside0.mk (Kd.V_elder' (by (with_reducible repeat (first | apply Kd.V_alloc | apply Kd.V_drewN | apply Kd.V_drew)); exact HO224.out) (by first | exact Kd.N_base ho0 | exact Kd.S_base ho0 | exact Kd.R_base ho0) hb); have n1_ := Aside0.mk (Kd.N_lower (Kd.N_mono (ok' := fun k_ => k_ ≠ gb226) ho0 (fun k_ hk_ => Or.elim hk_ (fun hs_ => fun e_ => Nat.not_le.2 hs_ (by rw [e_]; exact GW226.out)) (fun hn_ => (Kd.freshB (g := gb226) (o := .cells #[.int .i64 t221, .slice Ao19 t222.length co19] 38 (0, 0)) (by (with_reducible repeat (first | refine blk_drewN ?_ _ | refine blk_drew ?_ | refine blk_alloc ?_ _)); exact BK226.out) k_ hn_)))) (below_size (by repeat (first | (with_reducible first | exact HB.out | apply below_alloc | apply pw_below_drewN | apply below_drew1 | refine below_set ?_ GE226.out) | exact HB.out)))); have n2_ := Aside0.mk (blk_below (g := gb226) (o := .cells #[.int .i64 t221, .slice Ao19 t222.length co19] 38 (0, 0)) (by (with_reducible repeat (first | refine blk_drewN ?_ _ | refine blk_drew ?_ | refine blk_alloc ?_ _)); exact BK226.out) hb); have n3_ := Aside0.mk (below_step (by repeat (first | (with_reducible first | exact HB.out | apply below_alloc | apply pw_below_drewN | apply below_drew1 | refine below_set ?_ GE226.out) | exact HB.out)) hb); clear HO224; clear BK226; clear HB; have HO224 := n0_; have HO229 := n1_; have BK226 := n2_; have HB := n3_; clear n0_ n1_ n2_ n3_; (try clear hb); (try clear hb2); (try clear hk); (try clear hi); (try clear ho0); obtain ⟨Ao22, co22, eo22⟩ := Kd.N_slice HO229.out; subst eo22) | ((with_reducible refine gate_callee (f := 11) rfl ?_); refine goesL_ (some 45) rfl rfl Tryd.func11 (by kernel_rfl) rfl #[.slice Ao22 t227.length co22] rfl (by (try simp only [List.map_toArray, List.map_cons, List.map_nil]); first | done | rfl | (simp only [List.length_drop, List.length_take]; rfl)) ?_; (with_reducible refine (sect_Join.calls kj5 _ _ t227 t230 t233 _ ?side3 ?side1 ?side2 A14.out).mono ?_); (case side1 => repeat (first | exact (Kd.N_reads' HO229.out).2.2 | (with_reducible refine Kd.C_alloc ?_ _) | (with_reducible refine Kd.C_drewN ?_ _) | (with_reducible refine Kd.C_drew ?_))); (case side2 => exact (Kd.N_reads' HO229.out).2.1); (case side3 => first | exact Globs.below HG.out HB.out | exact Globs.below HG.out (by repeat (first | (with_reducible first | exact HB.out | apply below_alloc | apply pw_below_drewN | apply below_drew1 | refine below_set ?_ GE226.out) | exact HB.out)) | (repeat (first | exact HG.out | (with_reducible refine Globs.alloc ?_ _) | (with_reducible refine Globs.drewN ?_ _) | (with_reducible refine Globs.drew ?_)))); rintro e w23 ⟨v231, rfl, ho0, hb⟩; refine ⟨_, rfl, ?_⟩; have n0_ := Aside0.mk (Kd.V_below (by (with_reducible repeat (first | apply Kd.V_alloc | apply Kd.V_drewN | apply Kd.V_drew)); exact HO224.out) hb); have n1_ := Aside0.mk (Kd.N_below (by (with_reducible repeat (first | apply Kd.N_alloc | apply Kd.N_drewN | apply Kd.N_drew)); exact HO229.out) hb); have n2_ := Aside0.mk (Kd.V_lower (Kd.V_mono (ok' := fun k_ => some k_ ≠ (.slice Ao22 t227.length co22 : Value).ownBlock ∧ k_ ≠ gb226) ho0 (fun k_ hk_ => ⟨(Kd.fresh' (Kd.N_lt (by (with_reducible repeat (first | apply Kd.N_alloc | apply Kd.N_drewN | apply Kd.N_drew)); exact HO229.out)) k_ hk_), (Kd.freshB (g := gb226) (o := .cells #[.int .i64 t221, .slice Ao19 t222.length co19] 38 (0, 0)) (by (with_reducible repeat (first | refine blk_drewN ?_ _ | refine blk_drew ?_ | refine blk_alloc ?_ _)); exact BK226.out) k_ hk_)⟩)) (below_size (by repeat (first | (with_reducible first | exact HB.out | apply below_alloc | apply pw_below_drewN | apply below_drew1 | refine below_set ?_ GE226.out) | exact HB.out)))); have n3_ := Aside0.mk (blk_below (g := gb226) (o := .cells #[.int .i64 t221, .slice Ao19 t222.length co19] 38 (0, 0)) (by (with_reducible repeat (first | refine blk_drewN ?_ _ | refine blk_drew ?_ | refine blk_alloc ?_ _)); exact BK226.out) hb); have n4_ := Aside0.mk (below_step (by repeat (first | (with_reducible first | exact HB.out | apply below_alloc | apply pw_below_drewN | apply below_drew1 | refine below_set ?_ GE226.out) | exact HB.out)) hb); clear HO224; clear HO229; clear BK226; clear HB; have HO224 := n0_; have HO229 := n1_; have HO232 := n2_; have BK226 := n3_; have HB := n4_; clear n0_ n1_ n2_ n3_ n4_; (try clear hb); (try clear hb2); (try clear hk); (try clear hi); (try clear ho0)))
        (try simp only [Act.put, List.setIfInBounds_toArray, List.set_cons_zero, List.set_cons_succ])
        go_cut [58] (fun v58 wc => ∃ (kq : Nat) (x58_14 : Bool), v58 = .bool x58_14 ∧ Aside0 (avocetlaw07_SectCustom.j1 kq l0 a1 t219 x58_14 t221 t222 = some r) ∧ Aside0 (kq ≤ kj5) ∧ Aside0 (Kd.V (Kd.int .u8) 5 wc w.heap.size (fun k_ => k_ ≠ gb226) (.slice Ao19 t222.length co19) t222) ∧ Aside0 (wc.heap[gb226]? = some (.cells #[.int .i64 t221, (.slice Ao19 t222.length co19)] 38 (0, 0))) ∧ Aside0 (Below w.heap.size w wc))
        case first =>
          have H := HC15.out
          clear HC15
          by_cases c24 : t225 = 0
          · rw [if_pos c24] at H
            have c24b0 : (t225 == 0) = true := beq_iff_eq.mpr c24
            have c24b1 : (t225 != 0) = false := bne_eq_false_iff_eq.mpr c24
            clear c24
            (first | rw [c24b0] | (simp only [i64_w, i32_w]; rw [c24b0]) | skip)
            by_cases c25 : t233 = 0
            · rw [if_pos c25] at H
              have c25b0 : (t233 == 0) = true := beq_iff_eq.mpr c25
              have c25b1 : (t233 != 0) = false := bne_eq_false_iff_eq.mpr c25
              clear c25
              have H' := Aside0.mk H
              clear H
              obtain ⟨Ao26, co26, eo26⟩ := Kd.V_slice HO232.out
              subst eo26
              go_wp2
              go_meet
              case rel => exact ⟨_, (decide ((t230.length : Int) > 60000)), (by first | rfl | (simp; done) | (simp [*]; done)), H', ⟨by have := HJ5.out; first | omega | exact Nat.le_refl _⟩, ⟨by (with_reducible repeat (first | apply Kd.V_alloc | apply Kd.V_drewN | apply Kd.V_drew)); exact Kd.V_mono HO224.out (fun _ hk => hk.1)⟩, ⟨by (with_reducible repeat (first | refine blk_drewN ?_ _ | refine blk_drew ?_ | refine blk_alloc ?_ _)); exact BK226.out⟩, ⟨by repeat (first | (with_reducible first | exact HB.out | apply below_alloc | apply pw_below_drewN | apply below_drew1 | refine below_set ?_ GE226.out) | exact HB.out)⟩⟩
            · rw [if_neg c25] at H
              have c25b0 : (t233 == 0) = false := beq_eq_false_iff_ne.mpr c25
              have c25b1 : (t233 != 0) = true := bne_iff_ne.mpr c25
              have H' := Aside0.mk H
              clear H
              go_wp2
              go_meet
              case rel => exact ⟨_, (true), (by first | rfl | (simp; done) | (simp [*]; done)), H', ⟨by have := HJ5.out; first | omega | exact Nat.le_refl _⟩, ⟨by (with_reducible repeat (first | apply Kd.V_alloc | apply Kd.V_drewN | apply Kd.V_drew)); exact Kd.V_mono HO224.out (fun _ hk => hk.1)⟩, ⟨by (with_reducible repeat (first | refine blk_drewN ?_ _ | refine blk_drew ?_ | refine blk_alloc ?_ _)); exact BK226.out⟩, ⟨by repeat (first | (with_reducible first | exact HB.out | apply below_alloc | apply pw_below_drewN | apply below_drew1 | refine below_set ?_ GE226.out) | exact HB.out)⟩⟩
          · rw [if_neg c24] at H
            have c24b0 : (t225 == 0) = false := beq_eq_false_iff_ne.mpr c24
            have c24b1 : (t225 != 0) = true := bne_iff_ne.mpr c24
            (first | rw [c24b0] | (simp only [i64_w, i32_w]; rw [c24b0]) | skip)
            have H' := Aside0.mk H
            clear H
            go_wp2
            go_meet
            case rel => exact ⟨_, (true), (by first | rfl | (simp; done) | (simp [*]; done)), H', ⟨by have := HJ5.out; first | omega | exact Nat.le_refl _⟩, ⟨by (with_reducible repeat (first | apply Kd.V_alloc | apply Kd.V_drewN | apply Kd.V_drew)); exact Kd.V_mono HO224.out (fun _ hk => hk.1)⟩, ⟨by (with_reducible repeat (first | refine blk_drewN ?_ _ | refine blk_drew ?_ | refine blk_alloc ?_ _)); exact BK226.out⟩, ⟨by repeat (first | (with_reducible first | exact HB.out | apply below_alloc | apply pw_below_drewN | apply below_drew1 | refine below_set ?_ GE226.out) | exact HB.out)⟩⟩
        case rest =>
          clear HC15
          try clear c1
          try clear c2
          try clear p2
          try clear c3
          try clear c5
          try clear c9
          try clear c10
          try clear c10b0
          try clear c10b1
          try clear c11
          try clear c12
          try clear c16
          try clear c24
          try clear c24b0
          try clear c24b1
          try clear c25
          try clear c25b0
          try clear c25b1
          try clear hcz18_0
          try clear hcz18_1
          try clear hfz18_0
          try clear hfz18_1
          try clear p2
          obtain ⟨kq, x58_14, rfl, HA, HJ14, HO_227001, BK226, HB⟩ := hcut
          cases kq with
          | zero => exact absurd HA.out (by simp [avocetlaw07_SectCustom.j1])
          | succ kj14 =>
            have H := HA.out
            clear HA
            simp only [avocetlaw07_SectCustom.j1] at H
            by_cases c27 : x58_14 = true
            · subst c27
              have H1 : (some t219) = some r := by rw [if_pos rfl] at H; exact H
              clear H
              have H := H1
              clear H1
              obtain rfl := Option.some.inj H
              go_wp2
              go_ret
              exact ⟨by first | rfl | (simp [errW_none, errW_some] <;> rfl) | (simp [*, errW_none, errW_some] <;> rfl), by repeat (first | (with_reducible first | exact HB.out | apply below_alloc | apply pw_below_drewN | apply below_drew1 | refine below_set ?_ GE226.out) | exact HB.out)⟩
            · replace c27 := Bool.eq_false_iff.mpr c27
              subst c27
              have H1 : (if (wrap64 ((l0.length : Int) + 1)) = 0 then (none) else ((some (([] : List (S38)) : List (S38))).bind fun y234 => (if 0 ≤ (Int.tmod (Go.bits .and .i64 a1 65535) (wrap64 ((l0.length : Int) + 1))) then (if (Int.tmod (Go.bits .and .i64 a1 65535) (wrap64 ((l0.length : Int) + 1))) ≤ (l0.length : Int) then ((avocetlaw07_ours.f kj14 (l0.take ((Int.tmod (Go.bits .and .i64 a1 65535) (wrap64 ((l0.length : Int) + 1))) : Int).toNat)).bind fun t241 => (if y234.length + t241.length < 4398046511104 then ((some (y234 ++ t241 : List (S38))).bind fun y244 => ((some (([(⟨t221, t222⟩ : S38)] : List (S38)) : List (S38))).bind fun y247 => (if y244.length + y247.length < 4398046511104 then ((some (y244 ++ y247 : List (S38))).bind fun y250 => ((avocetlaw07_ours.f kj14 (l0.drop ((Int.tmod (Go.bits .and .i64 a1 65535) (wrap64 ((l0.length : Int) + 1))) : Int).toNat)).bind fun t257 => (if y250.length + t257.length < 4398046511104 then ((sect_Join.f kj14 (y250 ++ t257)).bind fun bt263 => ((sect_Split.f kj14 bt263.1).bind fun bt267 => (if bt263.2 = 0 then (if bt267.2 = 0 then (avocetlaw07_SectCustom.j2 kj14 l0 t219 (Int.tmod (Go.bits .and .i64 a1 65535) (wrap64 ((l0.length : Int) + 1))) bt267.1 ((bt267.1.length : Int) != (wrap64 ((l0.length : Int) + 1))) t221 t222) else (avocetlaw07_SectCustom.j2 kj14 l0 t219 (Int.tmod (Go.bits .and .i64 a1 65535) (wrap64 ((l0.length : Int) + 1))) bt267.1 true t221 t222)) else (avocetlaw07_SectCustom.j2 kj14 l0 t219 (Int.tmod (Go.bits .and .i64 a1 65535) (wrap64 ((l0.length : Int) + 1))) bt267.1 true t221 t222)))) else (none)))) else (none)))) else (none))) else (none)) else (none)))) = some r := by rw [if_neg (show ¬ (false = true) by decide)] at H; exact H
              clear H
              have H := H1
              clear H1
              by_cases c28 : (wrap64 ((l0.length : Int) + 1)) = 0
              · rw [if_pos c28] at H
                exact absurd H (by simp)
              · rw [if_neg c28] at H
                have c28b0 : ((wrap64 ((l0.length : Int) + 1)) == 0) = false := beq_eq_false_iff_ne.mpr c28
                have c28b1 : ((wrap64 ((l0.length : Int) + 1)) != 0) = true := bne_iff_ne.mpr c28
                obtain ⟨y234, hy234⟩ : ∃ y_ : List (S38), y_ = (([] : List (S38))) := ⟨_, rfl⟩
                replace H : (if 0 ≤ (Int.tmod (Go.bits .and .i64 a1 65535) (wrap64 ((l0.length : Int) + 1))) then (if (Int.tmod (Go.bits .and .i64 a1 65535) (wrap64 ((l0.length : Int) + 1))) ≤ (l0.length : Int) then ((avocetlaw07_ours.f kj14 (l0.take ((Int.tmod (Go.bits .and .i64 a1 65535) (wrap64 ((l0.length : Int) + 1))) : Int).toNat)).bind fun t241 => (if y234.length + t241.length < 4398046511104 then ((some (y234 ++ t241 : List (S38))).bind fun y244 => ((some (([(⟨t221, t222⟩ : S38)] : List (S38)) : List (S38))).bind fun y247 => (if y244.length + y247.length < 4398046511104 then ((some (y244 ++ y247 : List (S38))).bind fun y250 => ((avocetlaw07_ours.f kj14 (l0.drop ((Int.tmod (Go.bits .and .i64 a1 65535) (wrap64 ((l0.length : Int) + 1))) : Int).toNat)).bind fun t257 => (if y250.length + t257.length < 4398046511104 then ((sect_Join.f kj14 (y250 ++ t257)).bind fun bt263 => ((sect_Split.f kj14 bt263.1).bind fun bt267 => (if bt263.2 = 0 then (if bt267.2 = 0 then (avocetlaw07_SectCustom.j2 kj14 l0 t219 (Int.tmod (Go.bits .and .i64 a1 65535) (wrap64 ((l0.length : Int) + 1))) bt267.1 ((bt267.1.length : Int) != (wrap64 ((l0.length : Int) + 1))) t221 t222) else (avocetlaw07_SectCustom.j2 kj14 l0 t219 (Int.tmod (Go.bits .and .i64 a1 65535) (wrap64 ((l0.length : Int) + 1))) bt267.1 true t221 t222)) else (avocetlaw07_SectCustom.j2 kj14 l0 t219 (Int.tmod (Go.bits .and .i64 a1 65535) (wrap64 ((l0.length : Int) + 1))) bt267.1 true t221 t222)))) else (none)))) else (none)))) else (none))) else (none)) else (none)) = some r := by first | (rw [hy234]; with_reducible exact H) | (have H2_ := (Option.bind_some _ _).symm.trans H; rw [hy234]; with_reducible exact H2_) | (have H2_ := (Option.bind_some _ _).symm.trans H; with_reducible exact H2_) | with_reducible exact H | (rw [hy234]; exact H) | exact H
                have Ny234 := Aside0.mk hy234
                clear hy234
                obtain ⟨ji29, hji29⟩ : ∃ j_ : Int, (Int.tmod (Go.bits .and .i64 a1 65535) (wrap64 ((l0.length : Int) + 1))) = j_ := ⟨_, rfl⟩
                replace H : (if 0 ≤ (ji29) then (if (ji29) ≤ (l0.length : Int) then ((avocetlaw07_ours.f kj14 (l0.take ((ji29) : Int).toNat)).bind fun t241 => (if y234.length + t241.length < 4398046511104 then ((some (y234 ++ t241 : List (S38))).bind fun y244 => ((some (([(⟨t221, t222⟩ : S38)] : List (S38)) : List (S38))).bind fun y247 => (if y244.length + y247.length < 4398046511104 then ((some (y244 ++ y247 : List (S38))).bind fun y250 => ((avocetlaw07_ours.f kj14 (l0.drop ((ji29) : Int).toNat)).bind fun t257 => (if y250.length + t257.length < 4398046511104 then ((sect_Join.f kj14 (y250 ++ t257)).bind fun bt263 => ((sect_Split.f kj14 bt263.1).bind fun bt267 => (if bt263.2 = 0 then (if bt267.2 = 0 then (avocetlaw07_SectCustom.j2 kj14 l0 t219 ji29 bt267.1 ((bt267.1.length : Int) != (wrap64 ((l0.length : Int) + 1))) t221 t222) else (avocetlaw07_SectCustom.j2 kj14 l0 t219 ji29 bt267.1 true t221 t222)) else (avocetlaw07_SectCustom.j2 kj14 l0 t219 ji29 bt267.1 true t221 t222)))) else (none)))) else (none)))) else (none))) else (none)) else (none)) = some r := by first | (rw [hji29] at H; exact H) | (simp only [hji29] at H ⊢; exact H)
                by_cases c30 : 0 ≤ (ji29)
                · rw [if_pos c30] at H
                  have c30b0 := eq_true c30
                  have c30b1 : decide (0 ≤ (ji29)) = true := decide_eq_true c30
                  clear c30
                  by_cases c31 : (ji29) ≤ (l0.length : Int)
                  · rw [if_pos c31] at H
                    have c31b0 := eq_true c31
                    have c31b1 : decide ((ji29) ≤ (l0.length : Int)) = true := decide_eq_true c31
                    clear c31
                    obtain ⟨y237, hy237⟩ : ∃ y_ : List (S36), y_ = (l0.take ((ji29) : Int).toNat) := ⟨_, rfl⟩
                    replace H : ((avocetlaw07_ours.f kj14 y237).bind fun t241 => (if y234.length + t241.length < 4398046511104 then ((some (y234 ++ t241 : List (S38))).bind fun y244 => ((some (([(⟨t221, t222⟩ : S38)] : List (S38)) : List (S38))).bind fun y247 => (if y244.length + y247.length < 4398046511104 then ((some (y244 ++ y247 : List (S38))).bind fun y250 => ((avocetlaw07_ours.f kj14 (l0.drop ((ji29) : Int).toNat)).bind fun t257 => (if y250.length + t257.length < 4398046511104 then ((sect_Join.f kj14 (y250 ++ t257)).bind fun bt263 => ((sect_Split.f kj14 bt263.1).bind fun bt267 => (if bt263.2 = 0 then (if bt267.2 = 0 then (avocetlaw07_SectCustom.j2 kj14 l0 t219 ji29 bt267.1 ((bt267.1.length : Int) != (wrap64 ((l0.length : Int) + 1))) t221 t222) else (avocetlaw07_SectCustom.j2 kj14 l0 t219 ji29 bt267.1 true t221 t222)) else (avocetlaw07_SectCustom.j2 kj14 l0 t219 ji29 bt267.1 true t221 t222)))) else (none)))) else (none)))) else (none))) = some r := by first | (rw [hy237]; with_reducible exact H) | (have H2_ := (Option.bind_some _ _).symm.trans H; rw [hy237]; with_reducible exact H2_) | (have H2_ := (Option.bind_some _ _).symm.trans H; with_reducible exact H2_) | with_reducible exact H | (rw [hy237]; exact H) | exact H
                    have Ny237 := Aside0.mk hy237
                    clear hy237
                    replace H := Option.bind_eq_some_iff.mp H
                    obtain ⟨t241, A320, H⟩ := H
                    replace H : (if y234.length + t241.length < 4398046511104 then ((some (y234 ++ t241 : List (S38))).bind fun y244 => ((some (([(⟨t221, t222⟩ : S38)] : List (S38)) : List (S38))).bind fun y247 => (if y244.length + y247.length < 4398046511104 then ((some (y244 ++ y247 : List (S38))).bind fun y250 => ((avocetlaw07_ours.f kj14 (l0.drop ((ji29) : Int).toNat)).bind fun t257 => (if y250.length + t257.length < 4398046511104 then ((sect_Join.f kj14 (y250 ++ t257)).bind fun bt263 => ((sect_Split.f kj14 bt263.1).bind fun bt267 => (if bt263.2 = 0 then (if bt267.2 = 0 then (avocetlaw07_SectCustom.j2 kj14 l0 t219 ji29 bt267.1 ((bt267.1.length : Int) != (wrap64 ((l0.length : Int) + 1))) t221 t222) else (avocetlaw07_SectCustom.j2 kj14 l0 t219 ji29 bt267.1 true t221 t222)) else (avocetlaw07_SectCustom.j2 kj14 l0 t219 ji29 bt267.1 true t221 t222)))) else (none)))) else (none)))) else (none)) = some r := H
                    have A32 := Aside0.mk A320
                    clear A320
                    by_cases c33 : y234.length + t241.length < 4398046511104
                    · rw [if_pos c33] at H
                      have LMc33 := Aside0.mk c33
                      clear c33
                      obtain ⟨y244, hy244⟩ : ∃ y_ : List (S38), y_ = (y234 ++ t241) := ⟨_, rfl⟩
                      replace H : ((some (([(⟨t221, t222⟩ : S38)] : List (S38)) : List (S38))).bind fun y247 => (if y244.length + y247.length < 4398046511104 then ((some (y244 ++ y247 : List (S38))).bind fun y250 => ((avocetlaw07_ours.f kj14 (l0.drop ((ji29) : Int).toNat)).bind fun t257 => (if y250.length + t257.length < 4398046511104 then ((sect_Join.f kj14 (y250 ++ t257)).bind fun bt263 => ((sect_Split.f kj14 bt263.1).bind fun bt267 => (if bt263.2 = 0 then (if bt267.2 = 0 then (avocetlaw07_SectCustom.j2 kj14 l0 t219 ji29 bt267.1 ((bt267.1.length : Int) != (wrap64 ((l0.length : Int) + 1))) t221 t222) else (avocetlaw07_SectCustom.j2 kj14 l0 t219 ji29 bt267.1 true t221 t222)) else (avocetlaw07_SectCustom.j2 kj14 l0 t219 ji29 bt267.1 true t221 t222)))) else (none)))) else (none))) = some r := by first | (rw [hy244]; with_reducible exact H) | (have H2_ := (Option.bind_some _ _).symm.trans H; rw [hy244]; with_reducible exact H2_) | (have H2_ := (Option.bind_some _ _).symm.trans H; with_reducible exact H2_) | with_reducible exact H | (rw [hy244]; exact H) | exact H
                      have Ny244 := Aside0.mk hy244
                      clear hy244
                      obtain ⟨y247, hy247⟩ : ∃ y_ : List (S38), y_ = (([(⟨t221, t222⟩ : S38)] : List (S38))) := ⟨_, rfl⟩
                      replace H : (if y244.length + y247.length < 4398046511104 then ((some (y244 ++ y247 : List (S38))).bind fun y250 => ((avocetlaw07_ours.f kj14 (l0.drop ((ji29) : Int).toNat)).bind fun t257 => (if y250.length + t257.length < 4398046511104 then ((sect_Join.f kj14 (y250 ++ t257)).bind fun bt263 => ((sect_Split.f kj14 bt263.1).bind fun bt267 => (if bt263.2 = 0 then (if bt267.2 = 0 then (avocetlaw07_SectCustom.j2 kj14 l0 t219 ji29 bt267.1 ((bt267.1.length : Int) != (wrap64 ((l0.length : Int) + 1))) t221 t222) else (avocetlaw07_SectCustom.j2 kj14 l0 t219 ji29 bt267.1 true t221 t222)) else (avocetlaw07_SectCustom.j2 kj14 l0 t219 ji29 bt267.1 true t221 t222)))) else (none)))) else (none)) = some r := by first | (rw [hy247]; with_reducible exact H) | (have H2_ := (Option.bind_some _ _).symm.trans H; rw [hy247]; with_reducible exact H2_) | (have H2_ := (Option.bind_some _ _).symm.trans H; with_reducible exact H2_) | with_reducible exact H | (rw [hy247]; exact H) | exact H
                      have Ny247 := Aside0.mk hy247
                      clear hy247
                      by_cases c34 : y244.length + y247.length < 4398046511104
                      · rw [if_pos c34] at H
                        have LMc34 := Aside0.mk c34
                        clear c34
                        obtain ⟨y250, hy250⟩ : ∃ y_ : List (S38), y_ = (y244 ++ y247) := ⟨_, rfl⟩
                        replace H : ((avocetlaw07_ours.f kj14 (l0.drop ((ji29) : Int).toNat)).bind fun t257 => (if y250.length + t257.length < 4398046511104 then ((sect_Join.f kj14 (y250 ++ t257)).bind fun bt263 => ((sect_Split.f kj14 bt263.1).bind fun bt267 => (if bt263.2 = 0 then (if bt267.2 = 0 then (avocetlaw07_SectCustom.j2 kj14 l0 t219 ji29 bt267.1 ((bt267.1.length : Int) != (wrap64 ((l0.length : Int) + 1))) t221 t222) else (avocetlaw07_SectCustom.j2 kj14 l0 t219 ji29 bt267.1 true t221 t222)) else (avocetlaw07_SectCustom.j2 kj14 l0 t219 ji29 bt267.1 true t221 t222)))) else (none))) = some r := by first | (rw [hy250]; with_reducible exact H) | (have H2_ := (Option.bind_some _ _).symm.trans H; rw [hy250]; with_reducible exact H2_) | (have H2_ := (Option.bind_some _ _).symm.trans H; with_reducible exact H2_) | with_reducible exact H | (rw [hy250]; exact H) | exact H
                        have Ny250 := Aside0.mk hy250
                        clear hy250
                        have c35b0 := eq_true (of_decide_eq_true (by first | (with_reducible assumption) | assumption) : 0 ≤ (ji29))
                        have c36b0 := eq_true (of_decide_eq_true (by first | (with_reducible assumption) | assumption) : (ji29) ≤ (l0.length : Int))
                        obtain ⟨y253, hy253⟩ : ∃ y_ : List (S36), y_ = (l0.drop ((ji29) : Int).toNat) := ⟨_, rfl⟩
                        replace H : ((avocetlaw07_ours.f kj14 y253).bind fun t257 => (if y250.length + t257.length < 4398046511104 then ((sect_Join.f kj14 (y250 ++ t257)).bind fun bt263 => ((sect_Split.f kj14 bt263.1).bind fun bt267 => (if bt263.2 = 0 then (if bt267.2 = 0 then (avocetlaw07_SectCustom.j2 kj14 l0 t219 ji29 bt267.1 ((bt267.1.length : Int) != (wrap64 ((l0.length : Int) + 1))) t221 t222) else (avocetlaw07_SectCustom.j2 kj14 l0 t219 ji29 bt267.1 true t221 t222)) else (avocetlaw07_SectCustom.j2 kj14 l0 t219 ji29 bt267.1 true t221 t222)))) else (none))) = some r := by first | (rw [hy253]; with_reducible exact H) | (have H2_ := (Option.bind_some _ _).symm.trans H; rw [hy253]; with_reducible exact H2_) | (have H2_ := (Option.bind_some _ _).symm.trans H; with_reducible exact H2_) | with_reducible exact H | (rw [hy253]; exact H) | exact H
                        have Ny253 := Aside0.mk hy253
                        clear hy253
                        replace H := Option.bind_eq_some_iff.mp H
                        obtain ⟨t257, A370, H⟩ := H
                        replace H : (if y250.length + t257.length < 4398046511104 then ((sect_Join.f kj14 (y250 ++ t257)).bind fun bt263 => ((sect_Split.f kj14 bt263.1).bind fun bt267 => (if bt263.2 = 0 then (if bt267.2 = 0 then (avocetlaw07_SectCustom.j2 kj14 l0 t219 ji29 bt267.1 ((bt267.1.length : Int) != (wrap64 ((l0.length : Int) + 1))) t221 t222) else (avocetlaw07_SectCustom.j2 kj14 l0 t219 ji29 bt267.1 true t221 t222)) else (avocetlaw07_SectCustom.j2 kj14 l0 t219 ji29 bt267.1 true t221 t222)))) else (none)) = some r := H
                        have A37 := Aside0.mk A370
                        clear A370
                        by_cases c38 : y250.length + t257.length < 4398046511104
                        · rw [if_pos c38] at H
                          have LMc38 := Aside0.mk c38
                          clear c38
                          obtain ⟨y260, hy260⟩ : ∃ y_ : List (S38), y_ = (y250 ++ t257) := ⟨_, rfl⟩
                          replace H : ((sect_Join.f kj14 y260).bind fun bt263 => ((sect_Split.f kj14 bt263.1).bind fun bt267 => (if bt263.2 = 0 then (if bt267.2 = 0 then (avocetlaw07_SectCustom.j2 kj14 l0 t219 ji29 bt267.1 ((bt267.1.length : Int) != (wrap64 ((l0.length : Int) + 1))) t221 t222) else (avocetlaw07_SectCustom.j2 kj14 l0 t219 ji29 bt267.1 true t221 t222)) else (avocetlaw07_SectCustom.j2 kj14 l0 t219 ji29 bt267.1 true t221 t222)))) = some r := by first | (rw [hy260]; with_reducible exact H) | (have H2_ := (Option.bind_some _ _).symm.trans H; rw [hy260]; with_reducible exact H2_) | (have H2_ := (Option.bind_some _ _).symm.trans H; with_reducible exact H2_) | with_reducible exact H | (rw [hy260]; exact H) | exact H
                          have Ny260 := Aside0.mk hy260
                          clear hy260
                          replace H := Option.bind_eq_some_iff.mp H
                          obtain ⟨⟨t263, t266⟩, A390, H⟩ := H
                          replace H : ((sect_Split.f kj14 t263).bind fun bt267 => (if t266 = 0 then (if bt267.2 = 0 then (avocetlaw07_SectCustom.j2 kj14 l0 t219 ji29 bt267.1 ((bt267.1.length : Int) != (wrap64 ((l0.length : Int) + 1))) t221 t222) else (avocetlaw07_SectCustom.j2 kj14 l0 t219 ji29 bt267.1 true t221 t222)) else (avocetlaw07_SectCustom.j2 kj14 l0 t219 ji29 bt267.1 true t221 t222))) = some r := H
                          have A39 := Aside0.mk A390
                          clear A390
                          replace H := Option.bind_eq_some_iff.mp H
                          obtain ⟨⟨t267, t268⟩, A400, H⟩ := H
                          replace H : (if t266 = 0 then (if t268 = 0 then (avocetlaw07_SectCustom.j2 kj14 l0 t219 ji29 t267 ((t267.length : Int) != (wrap64 ((l0.length : Int) + 1))) t221 t222) else (avocetlaw07_SectCustom.j2 kj14 l0 t219 ji29 t267 true t221 t222)) else (avocetlaw07_SectCustom.j2 kj14 l0 t219 ji29 t267 true t221 t222)) = some r := H
                          have A40 := Aside0.mk A400
                          clear A400
                          have HC41 := Aside0.mk H
                          clear H
                          try go_wp2
                          have n0_ := Aside0.mk (Kd.V_drew HO_227001.out)
                          have n1_ := Aside0.mk (blk_drew BK226.out)
                          have n2_ := Aside0.mk (below_drew1 HB.out)
                          clear HO_227001; clear BK226; clear HB; have HO_227001 := n0_; have BK226 := n1_; have HB := n2_; clear n0_ n1_ n2_
                          have q43 : ((ji29) : Int) ≤ ((l0.length : Int) : Int) := of_decide_eq_true (by first | (with_reducible assumption) | assumption)
                          obtain ⟨i043, hi043, _, hsz43, _⟩ := info_parts info36
                          have hroom43 : l0.length ≤ c0 := HC0.out
                          have hC43 : Kd.C k36 _ A0 l0.length l0 := HR0.out
                          have hcut43 := cut_to (P := Tryd.prog) 22 36 .i64 Tryd.underlying22 hi043 A0 l0.length c0 (ji29) (of_decide_eq_true (by first | (with_reducible assumption) | assumption)) q43 hroom43
                          have hr43 := Kd.C_take (m := ((ji29) : Int).toNat) hC43 (by omega)
                          have hy43 : y237.length = ((ji29) : Int).toNat := (by rw [Ny237.out, List.length_take]; omega)
                          rw [← Ny237.out] at hr43
                          rw [← hy43] at hcut43
                          have HR240 := Aside0.mk hr43
                          have HC240 := Aside0.mk (show y237.length ≤ c0 from by omega)
                          clear hr43 hC43 hroom43 hi043 hsz43
                          have KY43 := Aside0.mk hy43
                          clear hy43
                          replace q43 := eq_true q43
                          have q44 : ((ji29) : Int) ≤ ((l0.length : Int) : Int) := of_decide_eq_true (by first | (with_reducible assumption) | assumption)
                          obtain ⟨i044, hi044, _, hsz44, _⟩ := info_parts info36
                          have hroom44 : l0.length ≤ c0 := HC0.out
                          have hC44 : Kd.C k36 _ A0 l0.length l0 := HR0.out
                          have q044 : (0 : Int) ≤ ((ji29) : Int) := of_decide_eq_true (by first | (with_reducible assumption) | assumption)
                          have hcut44 := cut_from (P := Tryd.prog) 22 36 .i64 Tryd.underlying22 hi044 2 hsz44 A0 l0.length c0 (ji29) q044 q44
                          have hr44 := Kd.C_drop (m := ((ji29) : Int).toNat) (c := c0) hC44 (by omega) hroom44
                          obtain ⟨A44, hA44⟩ : ∃ A1, A1 = (if c0 = ((ji29) : Int).toNat then A0 else (A0 : Option Addr).map (·.add (((ji29) : Int).toNat * 2))) := ⟨_, rfl⟩
                          obtain ⟨c44, hc44⟩ : ∃ c1, c1 = c0 - ((ji29) : Int).toNat := ⟨_, rfl⟩
                          have hy44 : y253.length = l0.length - ((ji29) : Int).toNat := (by rw [Ny253.out, List.length_drop] <;> omega)
                          rw [show (l0).drop ((ji29) : Int).toNat = y253 from Ny253.out.symm] at hr44
                          replace hr44 : Kd.C k36 _ A44 y253.length y253 := (by rw [hA44]; exact hr44)
                          rw [← hy44, ← hA44, ← hc44] at hcut44
                          have HR256 := Aside0.mk hr44
                          have HC256 := Aside0.mk (show y253.length ≤ c44 from by rw [hy44, hc44]; exact Nat.sub_le_sub_right hroom44 _)
                          clear hr44 hC44 hroom44 hi044 hsz44 hc44
                          have KY44 := Aside0.mk hy44
                          have KA44 := Aside0.mk hA44
                          clear hy44 hA44
                          replace q44 := eq_true q44
                          refine start_ (n := 15) (S := fun w' => w'.cell? ⟨gb226, 0, none⟩ = some (.int .i64 t221) ∧ w'.cell? ⟨gb226, 1, none⟩ = some (.slice Ao19 t222.length co19)) (ds := []) #[false, false, false, false, false, false, false, false, false, false, false, false, false, false, false] (by kernel_rfl) rfl rfl ⟨(blk_cell BK226.out 0).trans rfl, (blk_cell BK226.out 1).trans rfl⟩ (fun hHeld => ?_); refine with_tabW avocetlaw07_SectCustom.tab9 avocetlaw07_SectCustom.bits9 (fun HT_ HW_ => ?_)
                          generalize wc.drew = w42 at HO_227001 BK226 HB HR240 HR256 hHeld ⊢
                          refine pure_ (i := 1) (N := some 67) (v := ?_) (a' := ?_) #[false, true, false, false, false, false, false, false, false, false, false, false, false, false, false] rfl rfl (any_of HT_.out (by kernel_rfl)) (fun _ _ _ h => h) (Or.inl ⟨by rfl, ?_⟩) ?_ ?_
                          rotate_left
                          · intro w'
                            go_simp
                            with_reducible rfl
                          rotate_left
                          · simp only [Act.put, List.setIfInBounds_toArray, List.set_cons_zero, List.set_cons_succ, i64_w, i32_w]
                            rfl
                          refine pure_ (i := 2) (N := some 68) (v := ?_) (a' := ?_) #[false, true, true, false, false, false, false, false, false, false, false, false, false, false, false] rfl rfl (any_of HT_.out (by kernel_rfl)) (fun _ _ _ h => h) (Or.inl ⟨by rfl, ?_⟩) ?_ ?_
                          rotate_left
                          · intro w'
                            go_simp
                            with_reducible rfl
                          rotate_left
                          · simp only [Act.put, List.setIfInBounds_toArray, List.set_cons_zero, List.set_cons_succ, i64_w, i32_w]
                            rfl
                          refine pure_ (i := 3) (N := some 69) (v := ?_) (a' := ?_) #[false, true, true, true, false, false, false, false, false, false, false, false, false, false, false] rfl rfl (any_of HT_.out (by kernel_rfl)) (fun _ _ _ h => h) (Or.inl ⟨by rfl, ?_⟩) ?_ ?_
                          rotate_left
                          · intro w'
                            go_simp
                            with_reducible rfl
                          rotate_left
                          · simp only [Act.put, List.setIfInBounds_toArray, List.set_cons_zero, List.set_cons_succ, i64_w, i32_w]
                            rfl
                          refine pure_ (i := 9) (N := some 75) (v := ?_) (a' := ?_) #[false, true, true, true, false, false, false, false, false, true, false, false, false, false, false] rfl rfl (any_of HT_.out (by kernel_rfl)) (fun _ _ _ h => h) (Or.inl ⟨by rfl, ?_⟩) ?_ ?_
                          rotate_left
                          · intro w'
                            go_simp
                            with_reducible rfl
                          rotate_left
                          · simp only [Act.put, List.setIfInBounds_toArray, List.set_cons_zero, List.set_cons_succ, i64_w, i32_w]
                            rfl
                          refine pure_ (i := 10) (N := some 76) (v := ?_) (a' := ?_) #[false, true, true, true, false, false, false, false, false, true, true, false, false, false, false] rfl rfl (any_of HT_.out (by kernel_rfl)) (fun _ _ _ h => h) (Or.inl ⟨by rfl, ?_⟩) ?_ ?_
                          rotate_left
                          · intro w'
                            go_simp
                            with_reducible rfl
                          rotate_left
                          · simp only [Act.put, List.setIfInBounds_toArray, List.set_cons_zero, List.set_cons_succ, i64_w, i32_w]
                            rfl
                          refine pure_ (i := 11) (N := some 77) (v := ?_) (a' := ?_) #[false, true, true, true, false, false, false, false, false, true, true, true, false, false, false] rfl rfl (any_of HT_.out (by kernel_rfl)) (fun _ _ _ h => h) (Or.inl ⟨by rfl, ?_⟩) ?_ ?_
                          rotate_left
                          · intro w'
                            go_simp
                            with_reducible rfl
                          rotate_left
                          · simp only [Act.put, List.setIfInBounds_toArray, List.set_cons_zero, List.set_cons_succ, i64_w, i32_w]
                            rfl
                          refine take_ (i := 6) (N := some 72) (v := ?_) (a' := ?_) #[false, true, true, true, false, false, true, false, false, true, true, true, false, false, false] rfl rfl (take_ofW HT_.out HW_.out (by kernel_rfl)) (fun _ _ _ h => h) (Or.inl ⟨by rfl, ?_⟩) hHeld ?_ ?_
                          rotate_left
                          · rintro w' ⟨s0, s1⟩
                            (try simp only [List.length_take, List.length_drop] at s0 s1)
                            go_simp
                            with_reducible rfl
                          rotate_left
                          · simp only [Act.put, List.setIfInBounds_toArray, List.set_cons_zero, List.set_cons_succ, i64_w, i32_w]
                            rfl
                          refine join_ (σ := Value × Value × Value × Value) 4 #[true, true, true, true, true, true, true, true, false, true, true, true, false, false, false] (fun s_ => [(66, s_.1), (70, s_.2.1), (71, s_.2.2.1), (73, s_.2.2.2)]) (fun s_ w' => (w'.cell? ⟨gb226, 0, none⟩ = some (.int .i64 t221) ∧ w'.cell? ⟨gb226, 1, none⟩ = some (.slice Ao19 t222.length co19)) ∧ (Kd.N k38 38 w' w.heap.size (fun k_ => some k_ ≠ (s_.2.2.1 : Value).ownBlock ∧ some k_ ≠ (s_.2.2.2 : Value).ownBlock ∧ k_ ≠ gb226) s_.2.1 t241) ∧ (Kd.N k38 38 w' w.heap.size (fun k_ => some k_ ≠ (s_.2.2.2 : Value).ownBlock ∧ k_ ≠ gb226) s_.2.2.1 y244) ∧ (Kd.N k38 38 w' w.heap.size (fun k_ => some k_ ≠ (s_.2.1 : Value).ownBlock ∧ some k_ ≠ (s_.2.2.1 : Value).ownBlock ∧ k_ ≠ gb226) s_.2.2.2 y247) ∧ (Kd.V (Kd.int .u8) 5 w' w.heap.size (fun k_ => some k_ ≠ (s_.2.1 : Value).ownBlock ∧ some k_ ≠ (s_.2.2.1 : Value).ownBlock ∧ some k_ ≠ (s_.2.2.2 : Value).ownBlock ∧ k_ ≠ gb226) (.slice Ao19 t222.length co19) t222) ∧ (w'.heap[gb226]? = some (.cells #[.int .i64 t221, .slice Ao19 t222.length co19] 38 (0, 0))) ∧ (Below w.heap.size w w')) ?_ ?_
                          rotate_left
                          · intro hJ0_4_5_7
                            refine join_ (σ := Value × Value × Value) 5 #[true, true, true, true, true, true, true, false, false, true, true, true, false, false, false] (fun s_ => [(66, s_.1), (70, s_.2.1), (71, s_.2.2)]) (fun s_ w' => (w'.cell? ⟨gb226, 0, none⟩ = some (.int .i64 t221) ∧ w'.cell? ⟨gb226, 1, none⟩ = some (.slice Ao19 t222.length co19)) ∧ (Kd.N k38 38 w' w.heap.size (fun k_ => some k_ ≠ (s_.2.2 : Value).ownBlock ∧ k_ ≠ gb226) s_.2.1 t241) ∧ (Kd.N k38 38 w' w.heap.size (fun k_ => k_ ≠ gb226) s_.2.2 y244) ∧ (Kd.V (Kd.int .u8) 5 w' w.heap.size (fun k_ => some k_ ≠ (s_.2.1 : Value).ownBlock ∧ some k_ ≠ (s_.2.2 : Value).ownBlock ∧ k_ ≠ gb226) (.slice Ao19 t222.length co19) t222) ∧ (w'.heap[gb226]? = some (.cells #[.int .i64 t221, .slice Ao19 t222.length co19] 38 (0, 0))) ∧ (Below w.heap.size w w')) ?_ ?_
                            rotate_left
                            · intro hJ0_4_5
                              refine join_ (σ := Value × Value × Value) 5 #[true, true, true, true, true, false, true, true, false, true, true, true, false, false, false] (fun s_ => [(66, s_.1), (70, s_.2.1), (73, s_.2.2)]) (fun s_ w' => (w'.cell? ⟨gb226, 0, none⟩ = some (.int .i64 t221) ∧ w'.cell? ⟨gb226, 1, none⟩ = some (.slice Ao19 t222.length co19)) ∧ (Kd.N k38 38 w' w.heap.size (fun k_ => some k_ ≠ (s_.2.1 : Value).ownBlock ∧ some k_ ≠ (s_.2.2 : Value).ownBlock ∧ k_ ≠ gb226) s_.1 y234) ∧ (Kd.N k38 38 w' w.heap.size (fun k_ => some k_ ≠ (s_.1 : Value).ownBlock ∧ some k_ ≠ (s_.2.2 : Value).ownBlock ∧ k_ ≠ gb226) s_.2.1 t241) ∧ (Kd.N k38 38 w' w.heap.size (fun k_ => some k_ ≠ (s_.1 : Value).ownBlock ∧ some k_ ≠ (s_.2.1 : Value).ownBlock ∧ k_ ≠ gb226) s_.2.2 y247) ∧ (Kd.V (Kd.int .u8) 5 w' w.heap.size (fun k_ => some k_ ≠ (s_.1 : Value).ownBlock ∧ some k_ ≠ (s_.2.1 : Value).ownBlock ∧ some k_ ≠ (s_.2.2 : Value).ownBlock ∧ k_ ≠ gb226) (.slice Ao19 t222.length co19) t222) ∧ (w'.heap[gb226]? = some (.cells #[.int .i64 t221, .slice Ao19 t222.length co19] 38 (0, 0))) ∧ (Below w.heap.size w w')) ?_ ?_
                              rotate_left
                              · intro hJ0_4_7
                                refine join_ (σ := Value × Value) 6 #[true, true, true, true, true, false, true, false, false, true, true, true, false, false, false] (fun s_ => [(66, s_.1), (70, s_.2)]) (fun s_ w' => (w'.cell? ⟨gb226, 0, none⟩ = some (.int .i64 t221) ∧ w'.cell? ⟨gb226, 1, none⟩ = some (.slice Ao19 t222.length co19)) ∧ (Kd.N k38 38 w' w.heap.size (fun k_ => some k_ ≠ (s_.2 : Value).ownBlock ∧ k_ ≠ gb226) s_.1 y234) ∧ (Kd.N k38 38 w' w.heap.size (fun k_ => some k_ ≠ (s_.1 : Value).ownBlock ∧ k_ ≠ gb226) s_.2 t241) ∧ (Kd.V (Kd.int .u8) 5 w' w.heap.size (fun k_ => some k_ ≠ (s_.1 : Value).ownBlock ∧ some k_ ≠ (s_.2 : Value).ownBlock ∧ k_ ≠ gb226) (.slice Ao19 t222.length co19) t222) ∧ (w'.heap[gb226]? = some (.cells #[.int .i64 t221, .slice Ao19 t222.length co19] 38 (0, 0))) ∧ (Below w.heap.size w w')) ?_ ?_
                                rotate_left
                                · intro hJ0_4
                                  refine join_ (σ := Value × Value) 6 #[true, true, true, true, false, false, true, true, false, true, true, true, false, false, false] (fun s_ => [(66, s_.1), (73, s_.2)]) (fun s_ w' => (w'.cell? ⟨gb226, 0, none⟩ = some (.int .i64 t221) ∧ w'.cell? ⟨gb226, 1, none⟩ = some (.slice Ao19 t222.length co19)) ∧ (Kd.N k38 38 w' w.heap.size (fun k_ => some k_ ≠ (s_.2 : Value).ownBlock ∧ k_ ≠ gb226) s_.1 y234) ∧ (Kd.N k38 38 w' w.heap.size (fun k_ => some k_ ≠ (s_.1 : Value).ownBlock ∧ k_ ≠ gb226) s_.2 y247) ∧ (Kd.V (Kd.int .u8) 5 w' w.heap.size (fun k_ => some k_ ≠ (s_.1 : Value).ownBlock ∧ some k_ ≠ (s_.2 : Value).ownBlock ∧ k_ ≠ gb226) (.slice Ao19 t222.length co19) t222) ∧ (w'.heap[gb226]? = some (.cells #[.int .i64 t221, .slice Ao19 t222.length co19] 38 (0, 0))) ∧ (Below w.heap.size w w')) ?_ ?_
                                  rotate_left
                                  · intro hJ0_7
                                    refine join_ (σ := Value × Value) 6 #[false, true, true, true, true, false, true, true, false, true, true, true, false, false, false] (fun s_ => [(70, s_.1), (73, s_.2)]) (fun s_ w' => (w'.cell? ⟨gb226, 0, none⟩ = some (.int .i64 t221) ∧ w'.cell? ⟨gb226, 1, none⟩ = some (.slice Ao19 t222.length co19)) ∧ (Kd.N k38 38 w' w.heap.size (fun k_ => some k_ ≠ (s_.2 : Value).ownBlock ∧ k_ ≠ gb226) s_.1 t241) ∧ (Kd.N k38 38 w' w.heap.size (fun k_ => some k_ ≠ (s_.1 : Value).ownBlock ∧ k_ ≠ gb226) s_.2 y247) ∧ (Kd.V (Kd.int .u8) 5 w' w.heap.size (fun k_ => some k_ ≠ (s_.1 : Value).ownBlock ∧ some k_ ≠ (s_.2 : Value).ownBlock ∧ k_ ≠ gb226) (.slice Ao19 t222.length co19) t222) ∧ (w'.heap[gb226]? = some (.cells #[.int .i64 t221, .slice Ao19 t222.length co19] 38 (0, 0))) ∧ (Below w.heap.size w w')) ?_ ?_
                                    rotate_left
                                    · intro hJ4_7
                                      refine join_ (σ := Value) 7 #[true, true, true, true, false, false, true, false, false, true, true, true, false, false, false] (fun s_ => [(66, s_)]) (fun s_ w' => (w'.cell? ⟨gb226, 0, none⟩ = some (.int .i64 t221) ∧ w'.cell? ⟨gb226, 1, none⟩ = some (.slice Ao19 t222.length co19)) ∧ (Kd.N k38 38 w' w.heap.size (fun k_ => k_ ≠ gb226) s_ y234) ∧ (Kd.V (Kd.int .u8) 5 w' w.heap.size (fun k_ => some k_ ≠ (s_ : Value).ownBlock ∧ k_ ≠ gb226) (.slice Ao19 t222.length co19) t222) ∧ (w'.heap[gb226]? = some (.cells #[.int .i64 t221, .slice Ao19 t222.length co19] 38 (0, 0))) ∧ (Below w.heap.size w w')) ?_ ?_
                                      rotate_left
                                      · intro hJ0
                                        refine join_ (σ := Value) 7 #[false, true, true, true, true, false, true, false, false, true, true, true, false, false, false] (fun s_ => [(70, s_)]) (fun s_ w' => (w'.cell? ⟨gb226, 0, none⟩ = some (.int .i64 t221) ∧ w'.cell? ⟨gb226, 1, none⟩ = some (.slice Ao19 t222.length co19)) ∧ (Kd.N k38 38 w' w.heap.size (fun k_ => k_ ≠ gb226) s_ t241) ∧ (Kd.V (Kd.int .u8) 5 w' w.heap.size (fun k_ => some k_ ≠ (s_ : Value).ownBlock ∧ k_ ≠ gb226) (.slice Ao19 t222.length co19) t222) ∧ (w'.heap[gb226]? = some (.cells #[.int .i64 t221, .slice Ao19 t222.length co19] 38 (0, 0))) ∧ (Below w.heap.size w w')) ?_ ?_
                                        rotate_left
                                        · intro hJ4
                                          refine join_ (σ := Value) 7 #[false, true, true, true, false, false, true, true, false, true, true, true, false, false, false] (fun s_ => [(73, s_)]) (fun s_ w' => (w'.cell? ⟨gb226, 0, none⟩ = some (.int .i64 t221) ∧ w'.cell? ⟨gb226, 1, none⟩ = some (.slice Ao19 t222.length co19)) ∧ (Kd.N k38 38 w' w.heap.size (fun k_ => k_ ≠ gb226) s_ y247) ∧ (Kd.V (Kd.int .u8) 5 w' w.heap.size (fun k_ => some k_ ≠ (s_ : Value).ownBlock ∧ k_ ≠ gb226) (.slice Ao19 t222.length co19) t222) ∧ (w'.heap[gb226]? = some (.cells #[.int .i64 t221, .slice Ao19 t222.length co19] 38 (0, 0))) ∧ (Below w.heap.size w w')) ?_ ?_
                                          rotate_left
                                          · intro hJ7
                                            refine three_ (i := 0) (j := 4) (k := 7) (Ni := some 66) (Nj := some 70) (Nk := some 73) #[true, true, true, true, false, false, true, false, false, true, true, true, false, false, false] #[false, true, true, true, true, false, true, false, false, true, true, true, false, false, false] #[false, true, true, true, false, false, true, true, false, true, true, true, false, false, false] rfl rfl rfl rfl rfl rfl (three_of HT_.out (by kernel_rfl)) (by decide) (by decide) (by decide) (fun K hK => ?_) (fun K hK => ?_) (fun K hK => ?_)
                                            · skip
                                              refine Kd.N_lit_step k38 _ 38 ?hg (N' := 66) ?hd (xs := ([] : List (S38))) (inner := []) (ok := (fun k_ => k_ ≠ gb226)) (okp := (fun k_ => k_ ≠ gb226)) ?hr ?hp (fun _ hk => hk) ((show ∀ k_, w42.heap.size ≤ k_ → (fun k_ => k_ ≠ gb226) k_ from fun k_ hk => Kd.freshB (g := gb226) (o := .cells #[.int .i64 t221, .slice Ao19 t222.length co19] 38 (0, 0)) (by (with_reducible repeat (first | refine blk_drewN ?_ _ | refine blk_drew ?_ | refine blk_alloc ?_ _)); exact BK226.out) k_ hk) _ (Nat.le_refl _)) (Below.refl _ _) (Nat.le_refl _) (by simp) ?_; (case hd => rfl); (case hg => rfl); (case hr => first | (go_simp; done) | (go_simp; rfl) | (go_simp; simp only [u8tail]; done)); (case hp => exact (Reps.none _ _))
                                              intro v235 w45 ho46 hb hg_ hnew_
                                              clear hg_ hnew_
                                              (first | rw [← Ny234.out] at ho46 | (simp only [Int.reduceToNat] at ho46; rw [← Ny234.out] at ho46))
                                              have n0_ := Aside0.mk (Kd.V_elder' (by (with_reducible repeat (first | apply Kd.V_alloc | apply Kd.V_drewN | apply Kd.V_drew)); exact HO_227001.out) (by first | exact Kd.N_base ho46 | exact Kd.S_base ho46 | exact Kd.R_base ho46) hb)
                                              have n1_ := Aside0.mk (Kd.N_lower ho46 (below_size (by repeat (first | (with_reducible first | exact HB.out | apply below_alloc | apply pw_below_drewN | apply below_drew1 | refine below_set ?_ GE226.out) | exact HB.out))))
                                              have n2_ := Aside0.mk (blk_below (g := gb226) (o := .cells #[.int .i64 t221, .slice Ao19 t222.length co19] 38 (0, 0)) (by (with_reducible repeat (first | refine blk_drewN ?_ _ | refine blk_drew ?_ | refine blk_alloc ?_ _)); exact BK226.out) hb)
                                              have n3_ := Aside0.mk (below_step (by repeat (first | (with_reducible first | exact HB.out | apply below_alloc | apply pw_below_drewN | apply below_drew1 | refine below_set ?_ GE226.out) | exact HB.out)) hb)
                                              clear HO_227001; clear BK226; clear HB; have HO_227001 := n0_; have HO236 := n1_; have BK226 := n2_; have HB := n3_; clear n0_ n1_ n2_ n3_; clear hb ho46
                                              refine hK.out _ _ ⟨(blk_cell BK226.out 0).trans rfl, (blk_cell BK226.out 1).trans rfl⟩ (fun hHeld => ?_)
                                              clear hK K
                                              refine norm_ (a' := ?_) ?_ ?_
                                              rotate_left
                                              · show Act.put _ (some 66) _ = _
                                                simp only [Act.put, List.setIfInBounds_toArray, List.set_cons_zero, List.set_cons_succ, i64_w, i32_w]
                                                rfl
                                              exact norm_ (by first | (simp only [putAll, Act.put, List.setIfInBounds_toArray, List.set_cons_zero, List.set_cons_succ]; done) | (simp only [putAll, Act.put, List.setIfInBounds_toArray, List.set_cons_zero, List.set_cons_succ]; rfl) | (simp only [putAll, Act.put, List.setIfInBounds_toArray, List.set_cons_zero, List.set_cons_succ, *]; done)) (hJ0 (v235) _ ⟨hHeld, (by (with_reducible repeat (first | apply Kd.N_alloc | apply Kd.N_drewN | apply Kd.N_drew)); exact HO236.out), (by (with_reducible repeat (first | apply Kd.V_alloc | apply Kd.V_drewN | apply Kd.V_drew)); exact Kd.V_mono HO_227001.out (fun _ hk => ⟨hk.2, hk.1⟩)), (by (with_reducible repeat (first | refine blk_drewN ?_ _ | refine blk_drew ?_ | refine blk_alloc ?_ _)); exact BK226.out), (by repeat (first | (with_reducible first | exact HB.out | apply below_alloc | apply pw_below_drewN | apply below_drew1 | refine below_set ?_ GE226.out) | exact HB.out))⟩)
                                            · skip
                                              refine goes_ Tryd.func12 (by kernel_rfl) rfl #[.slice A0 y237.length c0] (by rfl) rfl rfl (by (try simp only [List.map_toArray, List.map_cons, List.map_nil]); first | done | rfl | (simp only [List.length_drop, List.length_take]; rfl)) ?_
                                              with_reducible refine (avocetlaw07_ours.calls kj14 (fun k_ => k_ < w.heap.size) _ _ y237 t241 _ ?side1 A32.out).mono ?_
                                              (case side1 => exact Kd.V_mk HC240.out (Kd.F_below (Kd.C_F k36_heap HR240.out) (by repeat (first | (with_reducible first | exact HB.out | apply below_alloc | apply pw_below_drewN | apply below_drew1 | refine below_set ?_ GE226.out) | exact HB.out))))
                                              rintro e w45 ⟨v242, rfl, ho0, hb⟩
                                              refine ⟨_, rfl, ?_⟩
                                              have n0_ := Aside0.mk (Kd.V_elder' (by (with_reducible repeat (first | apply Kd.V_alloc | apply Kd.V_drewN | apply Kd.V_drew)); exact HO_227001.out) (by first | exact Kd.N_base ho0 | exact Kd.S_base ho0 | exact Kd.R_base ho0) hb)
                                              have n1_ := Aside0.mk (Kd.N_lower (Kd.N_mono (ok' := fun k_ => k_ ≠ gb226) ho0 (fun k_ hk_ => Or.elim hk_ (fun hs_ => fun e_ => Nat.not_le.2 hs_ (by rw [e_]; exact GW226.out)) (fun hn_ => (Kd.freshB (g := gb226) (o := .cells #[.int .i64 t221, .slice Ao19 t222.length co19] 38 (0, 0)) (by (with_reducible repeat (first | refine blk_drewN ?_ _ | refine blk_drew ?_ | refine blk_alloc ?_ _)); exact BK226.out) k_ hn_)))) (below_size (by repeat (first | (with_reducible first | exact HB.out | apply below_alloc | apply pw_below_drewN | apply below_drew1 | refine below_set ?_ GE226.out) | exact HB.out))))
                                              have n2_ := Aside0.mk (blk_below (g := gb226) (o := .cells #[.int .i64 t221, .slice Ao19 t222.length co19] 38 (0, 0)) (by (with_reducible repeat (first | refine blk_drewN ?_ _ | refine blk_drew ?_ | refine blk_alloc ?_ _)); exact BK226.out) hb)
                                              have n3_ := Aside0.mk (below_step (by repeat (first | (with_reducible first | exact HB.out | apply below_alloc | apply pw_below_drewN | apply below_drew1 | refine below_set ?_ GE226.out) | exact HB.out)) hb)
                                              clear HO_227001; clear BK226; clear HB; have HO_227001 := n0_; have HO243 := n1_; have BK226 := n2_; have HB := n3_; clear n0_ n1_ n2_ n3_; (try clear hb); (try clear hb2); (try clear hk); (try clear hi); (try clear ho0)
                                              refine hK.out _ _ ⟨(blk_cell BK226.out 0).trans rfl, (blk_cell BK226.out 1).trans rfl⟩ (fun hHeld => ?_)
                                              clear hK K
                                              refine norm_ (a' := ?_) ?_ ?_
                                              rotate_left
                                              · show Act.put _ (some 70) _ = _
                                                simp only [Act.put, List.setIfInBounds_toArray, List.set_cons_zero, List.set_cons_succ, i64_w, i32_w]
                                                rfl
                                              exact norm_ (by first | (simp only [putAll, Act.put, List.setIfInBounds_toArray, List.set_cons_zero, List.set_cons_succ]; done) | (simp only [putAll, Act.put, List.setIfInBounds_toArray, List.set_cons_zero, List.set_cons_succ]; rfl) | (simp only [putAll, Act.put, List.setIfInBounds_toArray, List.set_cons_zero, List.set_cons_succ, *]; done)) (hJ4 (v242) _ ⟨hHeld, (by (with_reducible repeat (first | apply Kd.N_alloc | apply Kd.N_drewN | apply Kd.N_drew)); exact HO243.out), (by (with_reducible repeat (first | apply Kd.V_alloc | apply Kd.V_drewN | apply Kd.V_drew)); exact Kd.V_mono HO_227001.out (fun _ hk => ⟨hk.2, hk.1⟩)), (by (with_reducible repeat (first | refine blk_drewN ?_ _ | refine blk_drew ?_ | refine blk_alloc ?_ _)); exact BK226.out), (by repeat (first | (with_reducible first | exact HB.out | apply below_alloc | apply pw_below_drewN | apply below_drew1 | refine below_set ?_ GE226.out) | exact HB.out))⟩)
                                            · skip
                                              refine Kd.N_lit_step k38 _ 38 ?hg (N' := 73) ?hd (xs := ([(⟨t221, t222⟩ : S38)] : List (S38))) (inner := [.int .i64 t221, .slice Ao19 t222.length co19]) (ok := (fun k_ => k_ ≠ gb226)) (okp := (fun k_ => k_ ≠ gb226)) ?hr ?hp (fun _ hk => hk) ((show ∀ k_, w42.heap.size ≤ k_ → (fun k_ => k_ ≠ gb226) k_ from fun k_ hk => Kd.freshB (g := gb226) (o := .cells #[.int .i64 t221, .slice Ao19 t222.length co19] 38 (0, 0)) (by (with_reducible repeat (first | refine blk_drewN ?_ _ | refine blk_drew ?_ | refine blk_alloc ?_ _)); exact BK226.out) k_ hk) _ (Nat.le_refl _)) (Below.refl _ _) (Nat.le_refl _) (by simp) ?_; (case hd => rfl); (case hg => rfl); (case hr => first | (go_simp; done) | (go_simp; rfl) | (go_simp; simp only [u8tail]; done)); (case hp => exact (Reps.c2 (show Kd.FK k38 _ _ (⟨t221, t222⟩ : S38) [.int .i64 t221, .slice Ao19 t222.length co19] from (k38_mkF _ _ (⟨t221, t222⟩ : S38) (Kd.V_reads' (Kd.V_mono (ok' := (fun k_ => k_ ≠ gb226)) (HO_227001.out) (fun k_ hk => hk))).2.1 (Kd.V_F (Kd.V_mono (ok' := (fun k_ => k_ ≠ gb226)) (HO_227001.out) (fun k_ hk => hk))))) (Reps.none _ _)))
                                              intro v248 w45 ho46 hb hg_ hnew_
                                              clear hg_ hnew_
                                              (first | rw [← Ny247.out] at ho46 | (simp only [Int.reduceToNat] at ho46; rw [← Ny247.out] at ho46))
                                              have n0_ := Aside0.mk (Kd.V_elder' (by (with_reducible repeat (first | apply Kd.V_alloc | apply Kd.V_drewN | apply Kd.V_drew)); exact HO_227001.out) (by first | exact Kd.N_base ho46 | exact Kd.S_base ho46 | exact Kd.R_base ho46) hb)
                                              have n1_ := Aside0.mk (Kd.N_lower ho46 (below_size (by repeat (first | (with_reducible first | exact HB.out | apply below_alloc | apply pw_below_drewN | apply below_drew1 | refine below_set ?_ GE226.out) | exact HB.out))))
                                              have n2_ := Aside0.mk (blk_below (g := gb226) (o := .cells #[.int .i64 t221, .slice Ao19 t222.length co19] 38 (0, 0)) (by (with_reducible repeat (first | refine blk_drewN ?_ _ | refine blk_drew ?_ | refine blk_alloc ?_ _)); exact BK226.out) hb)
                                              have n3_ := Aside0.mk (below_step (by repeat (first | (with_reducible first | exact HB.out | apply below_alloc | apply pw_below_drewN | apply below_drew1 | refine below_set ?_ GE226.out) | exact HB.out)) hb)
                                              clear HO_227001; clear BK226; clear HB; have HO_227001 := n0_; have HO249 := n1_; have BK226 := n2_; have HB := n3_; clear n0_ n1_ n2_ n3_; clear hb ho46
                                              refine hK.out _ _ ⟨(blk_cell BK226.out 0).trans rfl, (blk_cell BK226.out 1).trans rfl⟩ (fun hHeld => ?_)
                                              clear hK K
                                              refine norm_ (a' := ?_) ?_ ?_
                                              rotate_left
                                              · show Act.put _ (some 73) _ = _
                                                simp only [Act.put, List.setIfInBounds_toArray, List.set_cons_zero, List.set_cons_succ, i64_w, i32_w]
                                                rfl
                                              exact norm_ (by first | (simp only [putAll, Act.put, List.setIfInBounds_toArray, List.set_cons_zero, List.set_cons_succ]; done) | (simp only [putAll, Act.put, List.setIfInBounds_toArray, List.set_cons_zero, List.set_cons_succ]; rfl) | (simp only [putAll, Act.put, List.setIfInBounds_toArray, List.set_cons_zero, List.set_cons_succ, *]; done)) (hJ7 (v248) _ ⟨hHeld, (by (with_reducible repeat (first | apply Kd.N_alloc | apply Kd.N_drewN | apply Kd.N_drew)); exact HO249.out), (by (with_reducible repeat (first | apply Kd.V_alloc | apply Kd.V_drewN | apply Kd.V_drew)); exact Kd.V_mono HO_227001.out (fun _ hk => ⟨hk.2, hk.1⟩)), (by (with_reducible repeat (first | refine blk_drewN ?_ _ | refine blk_drew ?_ | refine blk_alloc ?_ _)); exact BK226.out), (by repeat (first | (with_reducible first | exact HB.out | apply below_alloc | apply pw_below_drewN | apply below_drew1 | refine below_set ?_ GE226.out) | exact HB.out))⟩)
                                          · skip
                                            rintro v248 w47 ⟨hS_, h0_, h1_, h2_, h3_⟩
                                            have n0_ : Aside0 (Kd.N k38 38 w47 w.heap.size (fun k_ => k_ ≠ gb226) v248 y247) := ⟨h0_⟩
                                            have n1_ : Aside0 (Kd.V (Kd.int .u8) 5 w47 w.heap.size (fun k_ => some k_ ≠ (v248 : Value).ownBlock ∧ k_ ≠ gb226) (.slice Ao19 t222.length co19) t222) := ⟨h1_⟩
                                            have n2_ : Aside0 (w47.heap[gb226]? = some (.cells #[.int .i64 t221, .slice Ao19 t222.length co19] 38 (0, 0))) := ⟨h2_⟩
                                            have n3_ : Aside0 (Below w.heap.size w w47) := ⟨h3_⟩
                                            clear HO_227001; clear BK226; clear HB; clear h0_ h1_ h2_ h3_; have HO249 := n0_; have HO_227001 := n1_; have BK226 := n2_; have HB := n3_; clear n0_ n1_ n2_ n3_
                                            have hHeld : w47.cell? ⟨gb226, 0, none⟩ = some (.int .i64 t221) ∧ w47.cell? ⟨gb226, 1, none⟩ = some (.slice Ao19 t222.length co19) := hS_
                                            refine norm_ (a' := ?_) ?_ ?_
                                            rotate_left
                                            · simp only [putAll, Act.put, List.setIfInBounds_toArray, List.set_cons_zero, List.set_cons_succ, *]
                                              rfl
                                            refine two_ (i := 0) (j := 4) (Ni := some 66) (Nj := some 70) #[true, true, true, true, false, false, true, true, false, true, true, true, false, false, false] #[false, true, true, true, true, false, true, true, false, true, true, true, false, false, false] rfl rfl rfl rfl (two_of HT_.out (by kernel_rfl)) (by decide) (by decide) (fun K hK => ?_) (fun K hK => ?_)
                                            · skip
                                              refine Kd.N_lit_step k38 _ 38 ?hg (N' := 66) ?hd (xs := ([] : List (S38))) (inner := []) (ok := (fun k_ => some k_ ≠ (v248 : Value).ownBlock ∧ k_ ≠ gb226)) (okp := (fun k_ => some k_ ≠ (v248 : Value).ownBlock ∧ k_ ≠ gb226)) ?hr ?hp (fun _ hk => hk) ((show ∀ k_, w47.heap.size ≤ k_ → (fun k_ => some k_ ≠ (v248 : Value).ownBlock ∧ k_ ≠ gb226) k_ from fun k_ hk => ⟨Kd.fresh' (Kd.N_lt (by (with_reducible repeat (first | apply Kd.N_alloc | apply Kd.N_drewN | apply Kd.N_drew)); exact HO249.out)) k_ hk, Kd.freshB (g := gb226) (o := .cells #[.int .i64 t221, .slice Ao19 t222.length co19] 38 (0, 0)) (by (with_reducible repeat (first | refine blk_drewN ?_ _ | refine blk_drew ?_ | refine blk_alloc ?_ _)); exact BK226.out) k_ hk⟩) _ (Nat.le_refl _)) (Below.refl _ _) (Nat.le_refl _) (by simp) ?_; (case hd => rfl); (case hg => rfl); (case hr => first | (go_simp; done) | (go_simp; rfl) | (go_simp; simp only [u8tail]; done)); (case hp => exact (Reps.none _ _))
                                              intro v235 w48 ho49 hb hg_ hnew_
                                              clear hg_ hnew_
                                              (first | rw [← Ny234.out] at ho49 | (simp only [Int.reduceToNat] at ho49; rw [← Ny234.out] at ho49))
                                              have n0_ := Aside0.mk (Kd.V_elder' (by (with_reducible repeat (first | apply Kd.V_alloc | apply Kd.V_drewN | apply Kd.V_drew)); exact HO_227001.out) (by first | exact Kd.N_base ho49 | exact Kd.S_base ho49 | exact Kd.R_base ho49) hb)
                                              have n1_ := Aside0.mk (Kd.N_elder' (by (with_reducible repeat (first | apply Kd.N_alloc | apply Kd.N_drewN | apply Kd.N_drew)); exact HO249.out) (by first | exact Kd.N_base ho49 | exact Kd.S_base ho49 | exact Kd.R_base ho49) hb)
                                              have n2_ := Aside0.mk (Kd.N_lower ho49 (below_size (by repeat (first | (with_reducible first | exact HB.out | apply below_alloc | apply pw_below_drewN | apply below_drew1 | refine below_set ?_ GE226.out) | exact HB.out))))
                                              have n3_ := Aside0.mk (blk_below (g := gb226) (o := .cells #[.int .i64 t221, .slice Ao19 t222.length co19] 38 (0, 0)) (by (with_reducible repeat (first | refine blk_drewN ?_ _ | refine blk_drew ?_ | refine blk_alloc ?_ _)); exact BK226.out) hb)
                                              have n4_ := Aside0.mk (below_step (by repeat (first | (with_reducible first | exact HB.out | apply below_alloc | apply pw_below_drewN | apply below_drew1 | refine below_set ?_ GE226.out) | exact HB.out)) hb)
                                              clear HO_227001; clear HO249; clear BK226; clear HB; have HO_227001 := n0_; have HO249 := n1_; have HO236 := n2_; have BK226 := n3_; have HB := n4_; clear n0_ n1_ n2_ n3_ n4_; clear hb ho49
                                              refine hK.out _ _ ⟨(blk_cell BK226.out 0).trans rfl, (blk_cell BK226.out 1).trans rfl⟩ (fun hHeld => ?_)
                                              clear hK K
                                              refine norm_ (a' := ?_) ?_ ?_
                                              rotate_left
                                              · show Act.put _ (some 66) _ = _
                                                simp only [Act.put, List.setIfInBounds_toArray, List.set_cons_zero, List.set_cons_succ, i64_w, i32_w]
                                                rfl
                                              exact norm_ (by first | (simp only [putAll, Act.put, List.setIfInBounds_toArray, List.set_cons_zero, List.set_cons_succ]; done) | (simp only [putAll, Act.put, List.setIfInBounds_toArray, List.set_cons_zero, List.set_cons_succ]; rfl) | (simp only [putAll, Act.put, List.setIfInBounds_toArray, List.set_cons_zero, List.set_cons_succ, *]; done)) (hJ0_7 (v235, v248) _ ⟨hHeld, (by (with_reducible repeat (first | apply Kd.N_alloc | apply Kd.N_drewN | apply Kd.N_drew)); exact HO236.out), (by (with_reducible repeat (first | apply Kd.N_alloc | apply Kd.N_drewN | apply Kd.N_drew)); exact Kd.N_mono HO249.out (fun _ hk => ⟨hk.2, hk.1⟩)), (by (with_reducible repeat (first | apply Kd.V_alloc | apply Kd.V_drewN | apply Kd.V_drew)); exact Kd.V_mono HO_227001.out (fun _ hk => ⟨hk.2, ⟨hk.1.1, hk.1.2⟩⟩)), (by (with_reducible repeat (first | refine blk_drewN ?_ _ | refine blk_drew ?_ | refine blk_alloc ?_ _)); exact BK226.out), (by repeat (first | (with_reducible first | exact HB.out | apply below_alloc | apply pw_below_drewN | apply below_drew1 | refine below_set ?_ GE226.out) | exact HB.out))⟩)
                                            · skip
                                              refine goes_ Tryd.func12 (by kernel_rfl) rfl #[.slice A0 y237.length c0] (by rfl) rfl rfl (by (try simp only [List.map_toArray, List.map_cons, List.map_nil]); first | done | rfl | (simp only [List.length_drop, List.length_take]; rfl)) ?_
                                              with_reducible refine (avocetlaw07_ours.calls kj14 (fun k_ => k_ < w.heap.size) _ _ y237 t241 _ ?side1 A32.out).mono ?_
                                              (case side1 => exact Kd.V_mk HC240.out (Kd.F_below (Kd.C_F k36_heap HR240.out) (by repeat (first | (with_reducible first | exact HB.out | apply below_alloc | apply pw_below_drewN | apply below_drew1 | refine below_set ?_ GE226.out) | exact HB.out))))
                                              rintro e w48 ⟨v242, rfl, ho0, hb⟩
                                              refine ⟨_, rfl, ?_⟩
                                              have n0_ := Aside0.mk (Kd.V_elder' (by (with_reducible repeat (first | apply Kd.V_alloc | apply Kd.V_drewN | apply Kd.V_drew)); exact HO_227001.out) (by first | exact Kd.N_base ho0 | exact Kd.S_base ho0 | exact Kd.R_base ho0) hb)
                                              have n1_ := Aside0.mk (Kd.N_elder' (by (with_reducible repeat (first | apply Kd.N_alloc | apply Kd.N_drewN | apply Kd.N_drew)); exact HO249.out) (by first | exact Kd.N_base ho0 | exact Kd.S_base ho0 | exact Kd.R_base ho0) hb)
                                              have n2_ := Aside0.mk (Kd.N_lower (Kd.N_mono (ok' := fun k_ => some k_ ≠ (v248 : Value).ownBlock ∧ k_ ≠ gb226) ho0 (fun k_ hk_ => ⟨Or.elim hk_ (fun hs_ => fun e_ => Nat.not_le.2 hs_ (Kd.N_base HO249.out k_ e_.symm)) (fun hn_ => (Kd.fresh' (Kd.N_lt (by (with_reducible repeat (first | apply Kd.N_alloc | apply Kd.N_drewN | apply Kd.N_drew)); exact HO249.out)) k_ hn_)), Or.elim hk_ (fun hs_ => fun e_ => Nat.not_le.2 hs_ (by rw [e_]; exact GW226.out)) (fun hn_ => (Kd.freshB (g := gb226) (o := .cells #[.int .i64 t221, .slice Ao19 t222.length co19] 38 (0, 0)) (by (with_reducible repeat (first | refine blk_drewN ?_ _ | refine blk_drew ?_ | refine blk_alloc ?_ _)); exact BK226.out) k_ hn_))⟩)) (below_size (by repeat (first | (with_reducible first | exact HB.out | apply below_alloc | apply pw_below_drewN | apply below_drew1 | refine below_set ?_ GE226.out) | exact HB.out))))
                                              have n3_ := Aside0.mk (blk_below (g := gb226) (o := .cells #[.int .i64 t221, .slice Ao19 t222.length co19] 38 (0, 0)) (by (with_reducible repeat (first | refine blk_drewN ?_ _ | refine blk_drew ?_ | refine blk_alloc ?_ _)); exact BK226.out) hb)
                                              have n4_ := Aside0.mk (below_step (by repeat (first | (with_reducible first | exact HB.out | apply below_alloc | apply pw_below_drewN | apply below_drew1 | refine below_set ?_ GE226.out) | exact HB.out)) hb)
                                              clear HO_227001; clear HO249; clear BK226; clear HB; have HO_227001 := n0_; have HO249 := n1_; have HO243 := n2_; have BK226 := n3_; have HB := n4_; clear n0_ n1_ n2_ n3_ n4_; (try clear hb); (try clear hb2); (try clear hk); (try clear hi); (try clear ho0)
                                              refine hK.out _ _ ⟨(blk_cell BK226.out 0).trans rfl, (blk_cell BK226.out 1).trans rfl⟩ (fun hHeld => ?_)
                                              clear hK K
                                              refine norm_ (a' := ?_) ?_ ?_
                                              rotate_left
                                              · show Act.put _ (some 70) _ = _
                                                simp only [Act.put, List.setIfInBounds_toArray, List.set_cons_zero, List.set_cons_succ, i64_w, i32_w]
                                                rfl
                                              exact norm_ (by first | (simp only [putAll, Act.put, List.setIfInBounds_toArray, List.set_cons_zero, List.set_cons_succ]; done) | (simp only [putAll, Act.put, List.setIfInBounds_toArray, List.set_cons_zero, List.set_cons_succ]; rfl) | (simp only [putAll, Act.put, List.setIfInBounds_toArray, List.set_cons_zero, List.set_cons_succ, *]; done)) (hJ4_7 (v242, v248) _ ⟨hHeld, (by (with_reducible repeat (first | apply Kd.N_alloc | apply Kd.N_drewN | apply Kd.N_drew)); exact HO243.out), (by (with_reducible repeat (first | apply Kd.N_alloc | apply Kd.N_drewN | apply Kd.N_drew)); exact Kd.N_mono HO249.out (fun _ hk => ⟨hk.2, hk.1⟩)), (by (with_reducible repeat (first | apply Kd.V_alloc | apply Kd.V_drewN | apply Kd.V_drew)); exact Kd.V_mono HO_227001.out (fun _ hk => ⟨hk.2, ⟨hk.1.1, hk.1.2⟩⟩)), (by (with_reducible repeat (first | refine blk_drewN ?_ _ | refine blk_drew ?_ | refine blk_alloc ?_ _)); exact BK226.out), (by repeat (first | (with_reducible first | exact HB.out | apply below_alloc | apply pw_below_drewN | apply below_drew1 | refine below_set ?_ GE226.out) | exact HB.out))⟩)
                                        · skip
                                          rintro v242 w46 ⟨hS_, h0_, h1_, h2_, h3_⟩
                                          have n0_ : Aside0 (Kd.N k38 38 w46 w.heap.size (fun k_ => k_ ≠ gb226) v242 t241) := ⟨h0_⟩
                                          have n1_ : Aside0 (Kd.V (Kd.int .u8) 5 w46 w.heap.size (fun k_ => some k_ ≠ (v242 : Value).ownBlock ∧ k_ ≠ gb226) (.slice Ao19 t222.length co19) t222) := ⟨h1_⟩
                                          have n2_ : Aside0 (w46.heap[gb226]? = some (.cells #[.int .i64 t221, .slice Ao19 t222.length co19] 38 (0, 0))) := ⟨h2_⟩
                                          have n3_ : Aside0 (Below w.heap.size w w46) := ⟨h3_⟩
                                          clear HO_227001; clear BK226; clear HB; clear h0_ h1_ h2_ h3_; have HO243 := n0_; have HO_227001 := n1_; have BK226 := n2_; have HB := n3_; clear n0_ n1_ n2_ n3_
                                          have hHeld : w46.cell? ⟨gb226, 0, none⟩ = some (.int .i64 t221) ∧ w46.cell? ⟨gb226, 1, none⟩ = some (.slice Ao19 t222.length co19) := hS_
                                          refine norm_ (a' := ?_) ?_ ?_
                                          rotate_left
                                          · simp only [putAll, Act.put, List.setIfInBounds_toArray, List.set_cons_zero, List.set_cons_succ, *]
                                            rfl
                                          refine two_ (i := 0) (j := 7) (Ni := some 66) (Nj := some 73) #[true, true, true, true, true, false, true, false, false, true, true, true, false, false, false] #[false, true, true, true, true, false, true, true, false, true, true, true, false, false, false] rfl rfl rfl rfl (two_of HT_.out (by kernel_rfl)) (by decide) (by decide) (fun K hK => ?_) (fun K hK => ?_)
                                          · skip
                                            refine Kd.N_lit_step k38 _ 38 ?hg (N' := 66) ?hd (xs := ([] : List (S38))) (inner := []) (ok := (fun k_ => some k_ ≠ (v242 : Value).ownBlock ∧ k_ ≠ gb226)) (okp := (fun k_ => some k_ ≠ (v242 : Value).ownBlock ∧ k_ ≠ gb226)) ?hr ?hp (fun _ hk => hk) ((show ∀ k_, w46.heap.size ≤ k_ → (fun k_ => some k_ ≠ (v242 : Value).ownBlock ∧ k_ ≠ gb226) k_ from fun k_ hk => ⟨Kd.fresh' (Kd.N_lt (by (with_reducible repeat (first | apply Kd.N_alloc | apply Kd.N_drewN | apply Kd.N_drew)); exact HO243.out)) k_ hk, Kd.freshB (g := gb226) (o := .cells #[.int .i64 t221, .slice Ao19 t222.length co19] 38 (0, 0)) (by (with_reducible repeat (first | refine blk_drewN ?_ _ | refine blk_drew ?_ | refine blk_alloc ?_ _)); exact BK226.out) k_ hk⟩) _ (Nat.le_refl _)) (Below.refl _ _) (Nat.le_refl _) (by simp) ?_; (case hd => rfl); (case hg => rfl); (case hr => first | (go_simp; done) | (go_simp; rfl) | (go_simp; simp only [u8tail]; done)); (case hp => exact (Reps.none _ _))
                                            intro v235 w47 ho48 hb hg_ hnew_
                                            clear hg_ hnew_
                                            (first | rw [← Ny234.out] at ho48 | (simp only [Int.reduceToNat] at ho48; rw [← Ny234.out] at ho48))
                                            have n0_ := Aside0.mk (Kd.V_elder' (by (with_reducible repeat (first | apply Kd.V_alloc | apply Kd.V_drewN | apply Kd.V_drew)); exact HO_227001.out) (by first | exact Kd.N_base ho48 | exact Kd.S_base ho48 | exact Kd.R_base ho48) hb)
                                            have n1_ := Aside0.mk (Kd.N_elder' (by (with_reducible repeat (first | apply Kd.N_alloc | apply Kd.N_drewN | apply Kd.N_drew)); exact HO243.out) (by first | exact Kd.N_base ho48 | exact Kd.S_base ho48 | exact Kd.R_base ho48) hb)
                                            have n2_ := Aside0.mk (Kd.N_lower ho48 (below_size (by repeat (first | (with_reducible first | exact HB.out | apply below_alloc | apply pw_below_drewN | apply below_drew1 | refine below_set ?_ GE226.out) | exact HB.out))))
                                            have n3_ := Aside0.mk (blk_below (g := gb226) (o := .cells #[.int .i64 t221, .slice Ao19 t222.length co19] 38 (0, 0)) (by (with_reducible repeat (first | refine blk_drewN ?_ _ | refine blk_drew ?_ | refine blk_alloc ?_ _)); exact BK226.out) hb)
                                            have n4_ := Aside0.mk (below_step (by repeat (first | (with_reducible first | exact HB.out | apply below_alloc | apply pw_below_drewN | apply below_drew1 | refine below_set ?_ GE226.out) | exact HB.out)) hb)
                                            clear HO_227001; clear HO243; clear BK226; clear HB; have HO_227001 := n0_; have HO243 := n1_; have HO236 := n2_; have BK226 := n3_; have HB := n4_; clear n0_ n1_ n2_ n3_ n4_; clear hb ho48
                                            refine hK.out _ _ ⟨(blk_cell BK226.out 0).trans rfl, (blk_cell BK226.out 1).trans rfl⟩ (fun hHeld => ?_)
                                            clear hK K
                                            refine norm_ (a' := ?_) ?_ ?_
                                            rotate_left
                                            · show Act.put _ (some 66) _ = _
                                              simp only [Act.put, List.setIfInBounds_toArray, List.set_cons_zero, List.set_cons_succ, i64_w, i32_w]
                                              rfl
                                            exact norm_ (by first | (simp only [putAll, Act.put, List.setIfInBounds_toArray, List.set_cons_zero, List.set_cons_succ]; done) | (simp only [putAll, Act.put, List.setIfInBounds_toArray, List.set_cons_zero, List.set_cons_succ]; rfl) | (simp only [putAll, Act.put, List.setIfInBounds_toArray, List.set_cons_zero, List.set_cons_succ, *]; done)) (hJ0_4 (v235, v242) _ ⟨hHeld, (by (with_reducible repeat (first | apply Kd.N_alloc | apply Kd.N_drewN | apply Kd.N_drew)); exact HO236.out), (by (with_reducible repeat (first | apply Kd.N_alloc | apply Kd.N_drewN | apply Kd.N_drew)); exact Kd.N_mono HO243.out (fun _ hk => ⟨hk.2, hk.1⟩)), (by (with_reducible repeat (first | apply Kd.V_alloc | apply Kd.V_drewN | apply Kd.V_drew)); exact Kd.V_mono HO_227001.out (fun _ hk => ⟨hk.2, ⟨hk.1.1, hk.1.2⟩⟩)), (by (with_reducible repeat (first | refine blk_drewN ?_ _ | refine blk_drew ?_ | refine blk_alloc ?_ _)); exact BK226.out), (by repeat (first | (with_reducible first | exact HB.out | apply below_alloc | apply pw_below_drewN | apply below_drew1 | refine below_set ?_ GE226.out) | exact HB.out))⟩)
                                          · skip
                                            refine Kd.N_lit_step k38 _ 38 ?hg (N' := 73) ?hd (xs := ([(⟨t221, t222⟩ : S38)] : List (S38))) (inner := [.int .i64 t221, .slice Ao19 t222.length co19]) (ok := (fun k_ => some k_ ≠ (v242 : Value).ownBlock ∧ k_ ≠ gb226)) (okp := (fun k_ => some k_ ≠ (v242 : Value).ownBlock ∧ k_ ≠ gb226)) ?hr ?hp (fun _ hk => hk) ((show ∀ k_, w46.heap.size ≤ k_ → (fun k_ => some k_ ≠ (v242 : Value).ownBlock ∧ k_ ≠ gb226) k_ from fun k_ hk => ⟨Kd.fresh' (Kd.N_lt (by (with_reducible repeat (first | apply Kd.N_alloc | apply Kd.N_drewN | apply Kd.N_drew)); exact HO243.out)) k_ hk, Kd.freshB (g := gb226) (o := .cells #[.int .i64 t221, .slice Ao19 t222.length co19] 38 (0, 0)) (by (with_reducible repeat (first | refine blk_drewN ?_ _ | refine blk_drew ?_ | refine blk_alloc ?_ _)); exact BK226.out) k_ hk⟩) _ (Nat.le_refl _)) (Below.refl _ _) (Nat.le_refl _) (by simp) ?_; (case hd => rfl); (case hg => rfl); (case hr => first | (go_simp; done) | (go_simp; rfl) | (go_simp; simp only [u8tail]; done)); (case hp => exact (Reps.c2 (show Kd.FK k38 _ _ (⟨t221, t222⟩ : S38) [.int .i64 t221, .slice Ao19 t222.length co19] from (k38_mkF _ _ (⟨t221, t222⟩ : S38) (Kd.V_reads' (Kd.V_mono (ok' := (fun k_ => some k_ ≠ (v242 : Value).ownBlock ∧ k_ ≠ gb226)) (HO_227001.out) (fun k_ hk => ⟨hk.1, hk.2⟩))).2.1 (Kd.V_F (Kd.V_mono (ok' := (fun k_ => some k_ ≠ (v242 : Value).ownBlock ∧ k_ ≠ gb226)) (HO_227001.out) (fun k_ hk => ⟨hk.1, hk.2⟩))))) (Reps.none _ _)))
                                            intro v248 w47 ho48 hb hg_ hnew_
                                            clear hg_ hnew_
                                            (first | rw [← Ny247.out] at ho48 | (simp only [Int.reduceToNat] at ho48; rw [← Ny247.out] at ho48))
                                            have n0_ := Aside0.mk (Kd.V_elder' (by (with_reducible repeat (first | apply Kd.V_alloc | apply Kd.V_drewN | apply Kd.V_drew)); exact HO_227001.out) (by first | exact Kd.N_base ho48 | exact Kd.S_base ho48 | exact Kd.R_base ho48) hb)
                                            have n1_ := Aside0.mk (Kd.N_elder' (by (with_reducible repeat (first | apply Kd.N_alloc | apply Kd.N_drewN | apply Kd.N_drew)); exact HO243.out) (by first | exact Kd.N_base ho48 | exact Kd.S_base ho48 | exact Kd.R_base ho48) hb)
                                            have n2_ := Aside0.mk (Kd.N_lower ho48 (below_size (by repeat (first | (with_reducible first | exact HB.out | apply below_alloc | apply pw_below_drewN | apply below_drew1 | refine below_set ?_ GE226.out) | exact HB.out))))
                                            have n3_ := Aside0.mk (blk_below (g := gb226) (o := .cells #[.int .i64 t221, .slice Ao19 t222.length co19] 38 (0, 0)) (by (with_reducible repeat (first | refine blk_drewN ?_ _ | refine blk_drew ?_ | refine blk_alloc ?_ _)); exact BK226.out) hb)
                                            have n4_ := Aside0.mk (below_step (by repeat (first | (with_reducible first | exact HB.out | apply below_alloc | apply pw_below_drewN | apply below_drew1 | refine below_set ?_ GE226.out) | exact HB.out)) hb)
                                            clear HO_227001; clear HO243; clear BK226; clear HB; have HO_227001 := n0_; have HO243 := n1_; have HO249 := n2_; have BK226 := n3_; have HB := n4_; clear n0_ n1_ n2_ n3_ n4_; clear hb ho48
                                            refine hK.out _ _ ⟨(blk_cell BK226.out 0).trans rfl, (blk_cell BK226.out 1).trans rfl⟩ (fun hHeld => ?_)
                                            clear hK K
                                            refine norm_ (a' := ?_) ?_ ?_
                                            rotate_left
                                            · show Act.put _ (some 73) _ = _
                                              simp only [Act.put, List.setIfInBounds_toArray, List.set_cons_zero, List.set_cons_succ, i64_w, i32_w]
                                              rfl
                                            exact norm_ (by first | (simp only [putAll, Act.put, List.setIfInBounds_toArray, List.set_cons_zero, List.set_cons_succ]; done) | (simp only [putAll, Act.put, List.setIfInBounds_toArray, List.set_cons_zero, List.set_cons_succ]; rfl) | (simp only [putAll, Act.put, List.setIfInBounds_toArray, List.set_cons_zero, List.set_cons_succ, *]; done)) (hJ4_7 (v242, v248) _ ⟨hHeld, (by (with_reducible repeat (first | apply Kd.N_alloc | apply Kd.N_drewN | apply Kd.N_drew)); exact Kd.N_mono HO243.out (fun _ hk => ⟨hk.2, hk.1⟩)), (by (with_reducible repeat (first | apply Kd.N_alloc | apply Kd.N_drewN | apply Kd.N_drew)); exact HO249.out), (by (with_reducible repeat (first | apply Kd.V_alloc | apply Kd.V_drewN | apply Kd.V_drew)); exact Kd.V_mono HO_227001.out (fun _ hk => ⟨hk.1.1, ⟨hk.2, hk.1.2⟩⟩)), (by (with_reducible repeat (first | refine blk_drewN ?_ _ | refine blk_drew ?_ | refine blk_alloc ?_ _)); exact BK226.out), (by repeat (first | (with_reducible first | exact HB.out | apply below_alloc | apply pw_below_drewN | apply below_drew1 | refine below_set ?_ GE226.out) | exact HB.out))⟩)
                                      · skip
                                        rintro v235 w47 ⟨hS_, h0_, h1_, h2_, h3_⟩
                                        have n0_ : Aside0 (Kd.N k38 38 w47 w.heap.size (fun k_ => k_ ≠ gb226) v235 y234) := ⟨h0_⟩
                                        have n1_ : Aside0 (Kd.V (Kd.int .u8) 5 w47 w.heap.size (fun k_ => some k_ ≠ (v235 : Value).ownBlock ∧ k_ ≠ gb226) (.slice Ao19 t222.length co19) t222) := ⟨h1_⟩
                                        have n2_ : Aside0 (w47.heap[gb226]? = some (.cells #[.int .i64 t221, .slice Ao19 t222.length co19] 38 (0, 0))) := ⟨h2_⟩
                                        have n3_ : Aside0 (Below w.heap.size w w47) := ⟨h3_⟩
                                        clear HO_227001; clear BK226; clear HB; clear h0_ h1_ h2_ h3_; have HO236 := n0_; have HO_227001 := n1_; have BK226 := n2_; have HB := n3_; clear n0_ n1_ n2_ n3_
                                        have hHeld : w47.cell? ⟨gb226, 0, none⟩ = some (.int .i64 t221) ∧ w47.cell? ⟨gb226, 1, none⟩ = some (.slice Ao19 t222.length co19) := hS_
                                        refine norm_ (a' := ?_) ?_ ?_
                                        rotate_left
                                        · simp only [putAll, Act.put, List.setIfInBounds_toArray, List.set_cons_zero, List.set_cons_succ, *]
                                          rfl
                                        refine two_ (i := 4) (j := 7) (Ni := some 70) (Nj := some 73) #[true, true, true, true, true, false, true, false, false, true, true, true, false, false, false] #[true, true, true, true, false, false, true, true, false, true, true, true, false, false, false] rfl rfl rfl rfl (two_of HT_.out (by kernel_rfl)) (by decide) (by decide) (fun K hK => ?_) (fun K hK => ?_)
                                        · skip
                                          refine goes_ Tryd.func12 (by kernel_rfl) rfl #[.slice A0 y237.length c0] (by rfl) rfl rfl (by (try simp only [List.map_toArray, List.map_cons, List.map_nil]); first | done | rfl | (simp only [List.length_drop, List.length_take]; rfl)) ?_
                                          with_reducible refine (avocetlaw07_ours.calls kj14 (fun k_ => k_ < w.heap.size) _ _ y237 t241 _ ?side1 A32.out).mono ?_
                                          (case side1 => exact Kd.V_mk HC240.out (Kd.F_below (Kd.C_F k36_heap HR240.out) (by repeat (first | (with_reducible first | exact HB.out | apply below_alloc | apply pw_below_drewN | apply below_drew1 | refine below_set ?_ GE226.out) | exact HB.out))))
                                          rintro e w48 ⟨v242, rfl, ho0, hb⟩
                                          refine ⟨_, rfl, ?_⟩
                                          have n0_ := Aside0.mk (Kd.V_elder' (by (with_reducible repeat (first | apply Kd.V_alloc | apply Kd.V_drewN | apply Kd.V_drew)); exact HO_227001.out) (by first | exact Kd.N_base ho0 | exact Kd.S_base ho0 | exact Kd.R_base ho0) hb)
                                          have n1_ := Aside0.mk (Kd.N_elder' (by (with_reducible repeat (first | apply Kd.N_alloc | apply Kd.N_drewN | apply Kd.N_drew)); exact HO236.out) (by first | exact Kd.N_base ho0 | exact Kd.S_base ho0 | exact Kd.R_base ho0) hb)
                                          have n2_ := Aside0.mk (Kd.N_lower (Kd.N_mono (ok' := fun k_ => some k_ ≠ (v235 : Value).ownBlock ∧ k_ ≠ gb226) ho0 (fun k_ hk_ => ⟨Or.elim hk_ (fun hs_ => fun e_ => Nat.not_le.2 hs_ (Kd.N_base HO236.out k_ e_.symm)) (fun hn_ => (Kd.fresh' (Kd.N_lt (by (with_reducible repeat (first | apply Kd.N_alloc | apply Kd.N_drewN | apply Kd.N_drew)); exact HO236.out)) k_ hn_)), Or.elim hk_ (fun hs_ => fun e_ => Nat.not_le.2 hs_ (by rw [e_]; exact GW226.out)) (fun hn_ => (Kd.freshB (g := gb226) (o := .cells #[.int .i64 t221, .slice Ao19 t222.length co19] 38 (0, 0)) (by (with_reducible repeat (first | refine blk_drewN ?_ _ | refine blk_drew ?_ | refine blk_alloc ?_ _)); exact BK226.out) k_ hn_))⟩)) (below_size (by repeat (first | (with_reducible first | exact HB.out | apply below_alloc | apply pw_below_drewN | apply below_drew1 | refine below_set ?_ GE226.out) | exact HB.out))))
                                          have n3_ := Aside0.mk (blk_below (g := gb226) (o := .cells #[.int .i64 t221, .slice Ao19 t222.length co19] 38 (0, 0)) (by (with_reducible repeat (first | refine blk_drewN ?_ _ | refine blk_drew ?_ | refine blk_alloc ?_ _)); exact BK226.out) hb)
                                          have n4_ := Aside0.mk (below_step (by repeat (first | (with_reducible first | exact HB.out | apply below_alloc | apply pw_below_drewN | apply below_drew1 | refine below_set ?_ GE226.out) | exact HB.out)) hb)
                                          clear HO_227001; clear HO236; clear BK226; clear HB; have HO_227001 := n0_; have HO236 := n1_; have HO243 := n2_; have BK226 := n3_; have HB := n4_; clear n0_ n1_ n2_ n3_ n4_; (try clear hb); (try clear hb2); (try clear hk); (try clear hi); (try clear ho0)
                                          refine hK.out _ _ ⟨(blk_cell BK226.out 0).trans rfl, (blk_cell BK226.out 1).trans rfl⟩ (fun hHeld => ?_)
                                          clear hK K
                                          refine norm_ (a' := ?_) ?_ ?_
                                          rotate_left
                                          · show Act.put _ (some 70) _ = _
                                            simp only [Act.put, List.setIfInBounds_toArray, List.set_cons_zero, List.set_cons_succ, i64_w, i32_w]
                                            rfl
                                          exact norm_ (by first | (simp only [putAll, Act.put, List.setIfInBounds_toArray, List.set_cons_zero, List.set_cons_succ]; done) | (simp only [putAll, Act.put, List.setIfInBounds_toArray, List.set_cons_zero, List.set_cons_succ]; rfl) | (simp only [putAll, Act.put, List.setIfInBounds_toArray, List.set_cons_zero, List.set_cons_succ, *]; done)) (hJ0_4 (v235, v242) _ ⟨hHeld, (by (with_reducible repeat (first | apply Kd.N_alloc | apply Kd.N_drewN | apply Kd.N_drew)); exact Kd.N_mono HO236.out (fun _ hk => ⟨hk.2, hk.1⟩)), (by (with_reducible repeat (first | apply Kd.N_alloc | apply Kd.N_drewN | apply Kd.N_drew)); exact HO243.out), (by (with_reducible repeat (first | apply Kd.V_alloc | apply Kd.V_drewN | apply Kd.V_drew)); exact Kd.V_mono HO_227001.out (fun _ hk => ⟨hk.1.1, ⟨hk.2, hk.1.2⟩⟩)), (by (with_reducible repeat (first | refine blk_drewN ?_ _ | refine blk_drew ?_ | refine blk_alloc ?_ _)); exact BK226.out), (by repeat (first | (with_reducible first | exact HB.out | apply below_alloc | apply pw_below_drewN | apply below_drew1 | refine below_set ?_ GE226.out) | exact HB.out))⟩)
                                        · skip
                                          refine Kd.N_lit_step k38 _ 38 ?hg (N' := 73) ?hd (xs := ([(⟨t221, t222⟩ : S38)] : List (S38))) (inner := [.int .i64 t221, .slice Ao19 t222.length co19]) (ok := (fun k_ => some k_ ≠ (v235 : Value).ownBlock ∧ k_ ≠ gb226)) (okp := (fun k_ => some k_ ≠ (v235 : Value).ownBlock ∧ k_ ≠ gb226)) ?hr ?hp (fun _ hk => hk) ((show ∀ k_, w47.heap.size ≤ k_ → (fun k_ => some k_ ≠ (v235 : Value).ownBlock ∧ k_ ≠ gb226) k_ from fun k_ hk => ⟨Kd.fresh' (Kd.N_lt (by (with_reducible repeat (first | apply Kd.N_alloc | apply Kd.N_drewN | apply Kd.N_drew)); exact HO236.out)) k_ hk, Kd.freshB (g := gb226) (o := .cells #[.int .i64 t221, .slice Ao19 t222.length co19] 38 (0, 0)) (by (with_reducible repeat (first | refine blk_drewN ?_ _ | refine blk_drew ?_ | refine blk_alloc ?_ _)); exact BK226.out) k_ hk⟩) _ (Nat.le_refl _)) (Below.refl _ _) (Nat.le_refl _) (by simp) ?_; (case hd => rfl); (case hg => rfl); (case hr => first | (go_simp; done) | (go_simp; rfl) | (go_simp; simp only [u8tail]; done)); (case hp => exact (Reps.c2 (show Kd.FK k38 _ _ (⟨t221, t222⟩ : S38) [.int .i64 t221, .slice Ao19 t222.length co19] from (k38_mkF _ _ (⟨t221, t222⟩ : S38) (Kd.V_reads' (Kd.V_mono (ok' := (fun k_ => some k_ ≠ (v235 : Value).ownBlock ∧ k_ ≠ gb226)) (HO_227001.out) (fun k_ hk => ⟨hk.1, hk.2⟩))).2.1 (Kd.V_F (Kd.V_mono (ok' := (fun k_ => some k_ ≠ (v235 : Value).ownBlock ∧ k_ ≠ gb226)) (HO_227001.out) (fun k_ hk => ⟨hk.1, hk.2⟩))))) (Reps.none _ _)))
                                          intro v248 w48 ho49 hb hg_ hnew_
                                          clear hg_ hnew_
                                          (first | rw [← Ny247.out] at ho49 | (simp only [Int.reduceToNat] at ho49; rw [← Ny247.out] at ho49))
                                          have n0_ := Aside0.mk (Kd.V_elder' (by (with_reducible repeat (first | apply Kd.V_alloc | apply Kd.V_drewN | apply Kd.V_drew)); exact HO_227001.out) (by first | exact Kd.N_base ho49 | exact Kd.S_base ho49 | exact Kd.R_base ho49) hb)
                                          have n1_ := Aside0.mk (Kd.N_elder' (by (with_reducible repeat (first | apply Kd.N_alloc | apply Kd.N_drewN | apply Kd.N_drew)); exact HO236.out) (by first | exact Kd.N_base ho49 | exact Kd.S_base ho49 | exact Kd.R_base ho49) hb)
                                          have n2_ := Aside0.mk (Kd.N_lower ho49 (below_size (by repeat (first | (with_reducible first | exact HB.out | apply below_alloc | apply pw_below_drewN | apply below_drew1 | refine below_set ?_ GE226.out) | exact HB.out))))
                                          have n3_ := Aside0.mk (blk_below (g := gb226) (o := .cells #[.int .i64 t221, .slice Ao19 t222.length co19] 38 (0, 0)) (by (with_reducible repeat (first | refine blk_drewN ?_ _ | refine blk_drew ?_ | refine blk_alloc ?_ _)); exact BK226.out) hb)
                                          have n4_ := Aside0.mk (below_step (by repeat (first | (with_reducible first | exact HB.out | apply below_alloc | apply pw_below_drewN | apply below_drew1 | refine below_set ?_ GE226.out) | exact HB.out)) hb)
                                          clear HO_227001; clear HO236; clear BK226; clear HB; have HO_227001 := n0_; have HO236 := n1_; have HO249 := n2_; have BK226 := n3_; have HB := n4_; clear n0_ n1_ n2_ n3_ n4_; clear hb ho49
                                          refine hK.out _ _ ⟨(blk_cell BK226.out 0).trans rfl, (blk_cell BK226.out 1).trans rfl⟩ (fun hHeld => ?_)
                                          clear hK K
                                          refine norm_ (a' := ?_) ?_ ?_
                                          rotate_left
                                          · show Act.put _ (some 73) _ = _
                                            simp only [Act.put, List.setIfInBounds_toArray, List.set_cons_zero, List.set_cons_succ, i64_w, i32_w]
                                            rfl
                                          exact norm_ (by first | (simp only [putAll, Act.put, List.setIfInBounds_toArray, List.set_cons_zero, List.set_cons_succ]; done) | (simp only [putAll, Act.put, List.setIfInBounds_toArray, List.set_cons_zero, List.set_cons_succ]; rfl) | (simp only [putAll, Act.put, List.setIfInBounds_toArray, List.set_cons_zero, List.set_cons_succ, *]; done)) (hJ0_7 (v235, v248) _ ⟨hHeld, (by (with_reducible repeat (first | apply Kd.N_alloc | apply Kd.N_drewN | apply Kd.N_drew)); exact Kd.N_mono HO236.out (fun _ hk => ⟨hk.2, hk.1⟩)), (by (with_reducible repeat (first | apply Kd.N_alloc | apply Kd.N_drewN | apply Kd.N_drew)); exact HO249.out), (by (with_reducible repeat (first | apply Kd.V_alloc | apply Kd.V_drewN | apply Kd.V_drew)); exact Kd.V_mono HO_227001.out (fun _ hk => ⟨hk.1.1, ⟨hk.2, hk.1.2⟩⟩)), (by (with_reducible repeat (first | refine blk_drewN ?_ _ | refine blk_drew ?_ | refine blk_alloc ?_ _)); exact BK226.out), (by repeat (first | (with_reducible first | exact HB.out | apply below_alloc | apply pw_below_drewN | apply below_drew1 | refine below_set ?_ GE226.out) | exact HB.out))⟩)
                                    · skip
                                      rintro ⟨v242, v248⟩ w48 ⟨hS_, h0_, h1_, h2_, h3_, h4_⟩
                                      have n0_ : Aside0 (Kd.N k38 38 w48 w.heap.size (fun k_ => some k_ ≠ (v248 : Value).ownBlock ∧ k_ ≠ gb226) v242 t241) := ⟨h0_⟩
                                      have n1_ : Aside0 (Kd.N k38 38 w48 w.heap.size (fun k_ => some k_ ≠ (v242 : Value).ownBlock ∧ k_ ≠ gb226) v248 y247) := ⟨h1_⟩
                                      have n2_ : Aside0 (Kd.V (Kd.int .u8) 5 w48 w.heap.size (fun k_ => some k_ ≠ (v242 : Value).ownBlock ∧ some k_ ≠ (v248 : Value).ownBlock ∧ k_ ≠ gb226) (.slice Ao19 t222.length co19) t222) := ⟨h2_⟩
                                      have n3_ : Aside0 (w48.heap[gb226]? = some (.cells #[.int .i64 t221, .slice Ao19 t222.length co19] 38 (0, 0))) := ⟨h3_⟩
                                      have n4_ : Aside0 (Below w.heap.size w w48) := ⟨h4_⟩
                                      clear HO_227001; clear BK226; clear HB; clear h0_ h1_ h2_ h3_ h4_; have HO243 := n0_; have HO249 := n1_; have HO_227001 := n2_; have BK226 := n3_; have HB := n4_; clear n0_ n1_ n2_ n3_ n4_
                                      have hHeld : w48.cell? ⟨gb226, 0, none⟩ = some (.int .i64 t221) ∧ w48.cell? ⟨gb226, 1, none⟩ = some (.slice Ao19 t222.length co19) := hS_
                                      refine norm_ (a' := ?_) ?_ ?_
                                      rotate_left
                                      · simp only [putAll, Act.put, List.setIfInBounds_toArray, List.set_cons_zero, List.set_cons_succ, *]
                                        rfl
                                      refine one_ (i := 0) (N := some 66) #[true, true, true, true, true, false, true, true, false, true, true, true, false, false, false] rfl rfl (one_of HT_.out (by kernel_rfl)) (by decide) (fun K hK => ?_)
                                      refine Kd.N_lit_step k38 _ 38 ?hg (N' := 66) ?hd (xs := ([] : List (S38))) (inner := []) (ok := (fun k_ => some k_ ≠ (v242 : Value).ownBlock ∧ some k_ ≠ (v248 : Value).ownBlock ∧ k_ ≠ gb226)) (okp := (fun k_ => some k_ ≠ (v242 : Value).ownBlock ∧ some k_ ≠ (v248 : Value).ownBlock ∧ k_ ≠ gb226)) ?hr ?hp (fun _ hk => hk) ((show ∀ k_, w48.heap.size ≤ k_ → (fun k_ => some k_ ≠ (v242 : Value).ownBlock ∧ some k_ ≠ (v248 : Value).ownBlock ∧ k_ ≠ gb226) k_ from fun k_ hk => ⟨Kd.fresh' (Kd.N_lt (by (with_reducible repeat (first | apply Kd.N_alloc | apply Kd.N_drewN | apply Kd.N_drew)); exact HO243.out)) k_ hk, Kd.fresh' (Kd.N_lt (by (with_reducible repeat (first | apply Kd.N_alloc | apply Kd.N_drewN | apply Kd.N_drew)); exact HO249.out)) k_ hk, Kd.freshB (g := gb226) (o := .cells #[.int .i64 t221, .slice Ao19 t222.length co19] 38 (0, 0)) (by (with_reducible repeat (first | refine blk_drewN ?_ _ | refine blk_drew ?_ | refine blk_alloc ?_ _)); exact BK226.out) k_ hk⟩) _ (Nat.le_refl _)) (Below.refl _ _) (Nat.le_refl _) (by simp) ?_; (case hd => rfl); (case hg => rfl); (case hr => first | (go_simp; done) | (go_simp; rfl) | (go_simp; simp only [u8tail]; done)); (case hp => exact (Reps.none _ _))
                                      intro v235 w49 ho50 hb hg_ hnew_
                                      clear hg_ hnew_
                                      (first | rw [← Ny234.out] at ho50 | (simp only [Int.reduceToNat] at ho50; rw [← Ny234.out] at ho50))
                                      have n0_ := Aside0.mk (Kd.V_elder' (by (with_reducible repeat (first | apply Kd.V_alloc | apply Kd.V_drewN | apply Kd.V_drew)); exact HO_227001.out) (by first | exact Kd.N_base ho50 | exact Kd.S_base ho50 | exact Kd.R_base ho50) hb)
                                      have n1_ := Aside0.mk (Kd.N_elder' (by (with_reducible repeat (first | apply Kd.N_alloc | apply Kd.N_drewN | apply Kd.N_drew)); exact HO243.out) (by first | exact Kd.N_base ho50 | exact Kd.S_base ho50 | exact Kd.R_base ho50) hb)
                                      have n2_ := Aside0.mk (Kd.N_elder' (by (with_reducible repeat (first | apply Kd.N_alloc | apply Kd.N_drewN | apply Kd.N_drew)); exact HO249.out) (by first | exact Kd.N_base ho50 | exact Kd.S_base ho50 | exact Kd.R_base ho50) hb)
                                      have n3_ := Aside0.mk (Kd.N_lower ho50 (below_size (by repeat (first | (with_reducible first | exact HB.out | apply below_alloc | apply pw_below_drewN | apply below_drew1 | refine below_set ?_ GE226.out) | exact HB.out))))
                                      have n4_ := Aside0.mk (blk_below (g := gb226) (o := .cells #[.int .i64 t221, .slice Ao19 t222.length co19] 38 (0, 0)) (by (with_reducible repeat (first | refine blk_drewN ?_ _ | refine blk_drew ?_ | refine blk_alloc ?_ _)); exact BK226.out) hb)
                                      have n5_ := Aside0.mk (below_step (by repeat (first | (with_reducible first | exact HB.out | apply below_alloc | apply pw_below_drewN | apply below_drew1 | refine below_set ?_ GE226.out) | exact HB.out)) hb)
                                      clear HO_227001; clear HO243; clear HO249; clear BK226; clear HB; have HO_227001 := n0_; have HO243 := n1_; have HO249 := n2_; have HO236 := n3_; have BK226 := n4_; have HB := n5_; clear n0_ n1_ n2_ n3_ n4_ n5_; clear hb ho50
                                      refine hK.out _ _ ⟨(blk_cell BK226.out 0).trans rfl, (blk_cell BK226.out 1).trans rfl⟩ (fun hHeld => ?_)
                                      clear hK K
                                      refine norm_ (a' := ?_) ?_ ?_
                                      rotate_left
                                      · show Act.put _ (some 66) _ = _
                                        simp only [Act.put, List.setIfInBounds_toArray, List.set_cons_zero, List.set_cons_succ, i64_w, i32_w]
                                        rfl
                                      exact norm_ (by first | (simp only [putAll, Act.put, List.setIfInBounds_toArray, List.set_cons_zero, List.set_cons_succ]; done) | (simp only [putAll, Act.put, List.setIfInBounds_toArray, List.set_cons_zero, List.set_cons_succ]; rfl) | (simp only [putAll, Act.put, List.setIfInBounds_toArray, List.set_cons_zero, List.set_cons_succ, *]; done)) (hJ0_4_7 (v235, v242, v248) _ ⟨hHeld, (by (with_reducible repeat (first | apply Kd.N_alloc | apply Kd.N_drewN | apply Kd.N_drew)); exact HO236.out), (by (with_reducible repeat (first | apply Kd.N_alloc | apply Kd.N_drewN | apply Kd.N_drew)); exact Kd.N_mono HO243.out (fun _ hk => ⟨hk.2, ⟨hk.1.1, hk.1.2⟩⟩)), (by (with_reducible repeat (first | apply Kd.N_alloc | apply Kd.N_drewN | apply Kd.N_drew)); exact Kd.N_mono HO249.out (fun _ hk => ⟨hk.2, ⟨hk.1.1, hk.1.2⟩⟩)), (by (with_reducible repeat (first | apply Kd.V_alloc | apply Kd.V_drewN | apply Kd.V_drew)); exact Kd.V_mono HO_227001.out (fun _ hk => ⟨hk.2, ⟨hk.1.1, ⟨hk.1.2.1, hk.1.2.2⟩⟩⟩)), (by (with_reducible repeat (first | refine blk_drewN ?_ _ | refine blk_drew ?_ | refine blk_alloc ?_ _)); exact BK226.out), (by repeat (first | (with_reducible first | exact HB.out | apply below_alloc | apply pw_below_drewN | apply below_drew1 | refine below_set ?_ GE226.out) | exact HB.out))⟩)
                                  · skip
                                    rintro ⟨v235, v248⟩ w49 ⟨hS_, h0_, h1_, h2_, h3_, h4_⟩
                                    have n0_ : Aside0 (Kd.N k38 38 w49 w.heap.size (fun k_ => some k_ ≠ (v248 : Value).ownBlock ∧ k_ ≠ gb226) v235 y234) := ⟨h0_⟩
                                    have n1_ : Aside0 (Kd.N k38 38 w49 w.heap.size (fun k_ => some k_ ≠ (v235 : Value).ownBlock ∧ k_ ≠ gb226) v248 y247) := ⟨h1_⟩
                                    have n2_ : Aside0 (Kd.V (Kd.int .u8) 5 w49 w.heap.size (fun k_ => some k_ ≠ (v235 : Value).ownBlock ∧ some k_ ≠ (v248 : Value).ownBlock ∧ k_ ≠ gb226) (.slice Ao19 t222.length co19) t222) := ⟨h2_⟩
                                    have n3_ : Aside0 (w49.heap[gb226]? = some (.cells #[.int .i64 t221, .slice Ao19 t222.length co19] 38 (0, 0))) := ⟨h3_⟩
                                    have n4_ : Aside0 (Below w.heap.size w w49) := ⟨h4_⟩
                                    clear HO_227001; clear BK226; clear HB; clear h0_ h1_ h2_ h3_ h4_; have HO236 := n0_; have HO249 := n1_; have HO_227001 := n2_; have BK226 := n3_; have HB := n4_; clear n0_ n1_ n2_ n3_ n4_
                                    have hHeld : w49.cell? ⟨gb226, 0, none⟩ = some (.int .i64 t221) ∧ w49.cell? ⟨gb226, 1, none⟩ = some (.slice Ao19 t222.length co19) := hS_
                                    refine norm_ (a' := ?_) ?_ ?_
                                    rotate_left
                                    · simp only [putAll, Act.put, List.setIfInBounds_toArray, List.set_cons_zero, List.set_cons_succ, *]
                                      rfl
                                    refine one_ (i := 4) (N := some 70) #[true, true, true, true, true, false, true, true, false, true, true, true, false, false, false] rfl rfl (one_of HT_.out (by kernel_rfl)) (by decide) (fun K hK => ?_)
                                    refine goes_ Tryd.func12 (by kernel_rfl) rfl #[.slice A0 y237.length c0] (by rfl) rfl rfl (by (try simp only [List.map_toArray, List.map_cons, List.map_nil]); first | done | rfl | (simp only [List.length_drop, List.length_take]; rfl)) ?_
                                    with_reducible refine (avocetlaw07_ours.calls kj14 (fun k_ => k_ < w.heap.size) _ _ y237 t241 _ ?side1 A32.out).mono ?_
                                    (case side1 => exact Kd.V_mk HC240.out (Kd.F_below (Kd.C_F k36_heap HR240.out) (by repeat (first | (with_reducible first | exact HB.out | apply below_alloc | apply pw_below_drewN | apply below_drew1 | refine below_set ?_ GE226.out) | exact HB.out))))
                                    rintro e w50 ⟨v242, rfl, ho0, hb⟩
                                    refine ⟨_, rfl, ?_⟩
                                    have n0_ := Aside0.mk (Kd.V_elder' (by (with_reducible repeat (first | apply Kd.V_alloc | apply Kd.V_drewN | apply Kd.V_drew)); exact HO_227001.out) (by first | exact Kd.N_base ho0 | exact Kd.S_base ho0 | exact Kd.R_base ho0) hb)
                                    have n1_ := Aside0.mk (Kd.N_elder' (by (with_reducible repeat (first | apply Kd.N_alloc | apply Kd.N_drewN | apply Kd.N_drew)); exact HO236.out) (by first | exact Kd.N_base ho0 | exact Kd.S_base ho0 | exact Kd.R_base ho0) hb)
                                    have n2_ := Aside0.mk (Kd.N_elder' (by (with_reducible repeat (first | apply Kd.N_alloc | apply Kd.N_drewN | apply Kd.N_drew)); exact HO249.out) (by first | exact Kd.N_base ho0 | exact Kd.S_base ho0 | exact Kd.R_base ho0) hb)
                                    have n3_ := Aside0.mk (Kd.N_lower (Kd.N_mono (ok' := fun k_ => some k_ ≠ (v235 : Value).ownBlock ∧ some k_ ≠ (v248 : Value).ownBlock ∧ k_ ≠ gb226) ho0 (fun k_ hk_ => ⟨Or.elim hk_ (fun hs_ => fun e_ => Nat.not_le.2 hs_ (Kd.N_base HO236.out k_ e_.symm)) (fun hn_ => (Kd.fresh' (Kd.N_lt (by (with_reducible repeat (first | apply Kd.N_alloc | apply Kd.N_drewN | apply Kd.N_drew)); exact HO236.out)) k_ hn_)), Or.elim hk_ (fun hs_ => fun e_ => Nat.not_le.2 hs_ (Kd.N_base HO249.out k_ e_.symm)) (fun hn_ => (Kd.fresh' (Kd.N_lt (by (with_reducible repeat (first | apply Kd.N_alloc | apply Kd.N_drewN | apply Kd.N_drew)); exact HO249.out)) k_ hn_)), Or.elim hk_ (fun hs_ => fun e_ => Nat.not_le.2 hs_ (by rw [e_]; exact GW226.out)) (fun hn_ => (Kd.freshB (g := gb226) (o := .cells #[.int .i64 t221, .slice Ao19 t222.length co19] 38 (0, 0)) (by (with_reducible repeat (first | refine blk_drewN ?_ _ | refine blk_drew ?_ | refine blk_alloc ?_ _)); exact BK226.out) k_ hn_))⟩)) (below_size (by repeat (first | (with_reducible first | exact HB.out | apply below_alloc | apply pw_below_drewN | apply below_drew1 | refine below_set ?_ GE226.out) | exact HB.out))))
                                    have n4_ := Aside0.mk (blk_below (g := gb226) (o := .cells #[.int .i64 t221, .slice Ao19 t222.length co19] 38 (0, 0)) (by (with_reducible repeat (first | refine blk_drewN ?_ _ | refine blk_drew ?_ | refine blk_alloc ?_ _)); exact BK226.out) hb)
                                    have n5_ := Aside0.mk (below_step (by repeat (first | (with_reducible first | exact HB.out | apply below_alloc | apply pw_below_drewN | apply below_drew1 | refine below_set ?_ GE226.out) | exact HB.out)) hb)
                                    clear HO_227001; clear HO236; clear HO249; clear BK226; clear HB; have HO_227001 := n0_; have HO236 := n1_; have HO249 := n2_; have HO243 := n3_; have BK226 := n4_; have HB := n5_; clear n0_ n1_ n2_ n3_ n4_ n5_; (try clear hb); (try clear hb2); (try clear hk); (try clear hi); (try clear ho0)
                                    refine hK.out _ _ ⟨(blk_cell BK226.out 0).trans rfl, (blk_cell BK226.out 1).trans rfl⟩ (fun hHeld => ?_)
                                    clear hK K
                                    refine norm_ (a' := ?_) ?_ ?_
                                    rotate_left
                                    · show Act.put _ (some 70) _ = _
                                      simp only [Act.put, List.setIfInBounds_toArray, List.set_cons_zero, List.set_cons_succ, i64_w, i32_w]
                                      rfl
                                    exact norm_ (by first | (simp only [putAll, Act.put, List.setIfInBounds_toArray, List.set_cons_zero, List.set_cons_succ]; done) | (simp only [putAll, Act.put, List.setIfInBounds_toArray, List.set_cons_zero, List.set_cons_succ]; rfl) | (simp only [putAll, Act.put, List.setIfInBounds_toArray, List.set_cons_zero, List.set_cons_succ, *]; done)) (hJ0_4_7 (v235, v242, v248) _ ⟨hHeld, (by (with_reducible repeat (first | apply Kd.N_alloc | apply Kd.N_drewN | apply Kd.N_drew)); exact Kd.N_mono HO236.out (fun _ hk => ⟨hk.2, ⟨hk.1.1, hk.1.2⟩⟩)), (by (with_reducible repeat (first | apply Kd.N_alloc | apply Kd.N_drewN | apply Kd.N_drew)); exact HO243.out), (by (with_reducible repeat (first | apply Kd.N_alloc | apply Kd.N_drewN | apply Kd.N_drew)); exact Kd.N_mono HO249.out (fun _ hk => ⟨hk.1.1, ⟨hk.2, hk.1.2⟩⟩)), (by (with_reducible repeat (first | apply Kd.V_alloc | apply Kd.V_drewN | apply Kd.V_drew)); exact Kd.V_mono HO_227001.out (fun _ hk => ⟨hk.1.1, ⟨hk.2, ⟨hk.1.2.1, hk.1.2.2⟩⟩⟩)), (by (with_reducible repeat (first | refine blk_drewN ?_ _ | refine blk_drew ?_ | refine blk_alloc ?_ _)); exact BK226.out), (by repeat (first | (with_reducible first | exact HB.out | apply below_alloc | apply pw_below_drewN | apply below_drew1 | refine below_set ?_ GE226.out) | exact HB.out))⟩)
                                · skip
                                  rintro ⟨v235, v242⟩ w48 ⟨hS_, h0_, h1_, h2_, h3_, h4_⟩
                                  have n0_ : Aside0 (Kd.N k38 38 w48 w.heap.size (fun k_ => some k_ ≠ (v242 : Value).ownBlock ∧ k_ ≠ gb226) v235 y234) := ⟨h0_⟩
                                  have n1_ : Aside0 (Kd.N k38 38 w48 w.heap.size (fun k_ => some k_ ≠ (v235 : Value).ownBlock ∧ k_ ≠ gb226) v242 t241) := ⟨h1_⟩
                                  have n2_ : Aside0 (Kd.V (Kd.int .u8) 5 w48 w.heap.size (fun k_ => some k_ ≠ (v235 : Value).ownBlock ∧ some k_ ≠ (v242 : Value).ownBlock ∧ k_ ≠ gb226) (.slice Ao19 t222.length co19) t222) := ⟨h2_⟩
                                  have n3_ : Aside0 (w48.heap[gb226]? = some (.cells #[.int .i64 t221, .slice Ao19 t222.length co19] 38 (0, 0))) := ⟨h3_⟩
                                  have n4_ : Aside0 (Below w.heap.size w w48) := ⟨h4_⟩
                                  clear HO_227001; clear BK226; clear HB; clear h0_ h1_ h2_ h3_ h4_; have HO236 := n0_; have HO243 := n1_; have HO_227001 := n2_; have BK226 := n3_; have HB := n4_; clear n0_ n1_ n2_ n3_ n4_
                                  have hHeld : w48.cell? ⟨gb226, 0, none⟩ = some (.int .i64 t221) ∧ w48.cell? ⟨gb226, 1, none⟩ = some (.slice Ao19 t222.length co19) := hS_
                                  obtain ⟨Ao50, co50, eo50⟩ := Kd.N_slice HO243.out
                                  (first | subst eo50 | (injection eo50 with f1_ f2_ f3_; have f4_ := f1_.symm; have f5_ := f3_.symm; clear f1_ f2_ f3_; subst f4_; subst f5_))
                                  refine norm_ (a' := ?_) ?_ ?_
                                  rotate_left
                                  · simp only [putAll, Act.put, List.setIfInBounds_toArray, List.set_cons_zero, List.set_cons_succ, *]
                                    rfl
                                  refine two_ (i := 5) (j := 7) (Ni := some 71) (Nj := some 73) #[true, true, true, true, true, true, true, false, false, true, true, true, false, false, false] #[true, true, true, true, true, false, true, true, false, true, true, true, false, false, false] rfl rfl rfl rfl (two_of HT_.out (by kernel_rfl)) (by decide) (by decide) (fun K hK => ?_) (fun K hK => ?_)
                                  · skip
                                    refine Kd.N_append_rows_step k38 (w0 := w) w.heap.size (by rfl) (.tmp 66) (.tmp 70) 29 38 (.agg #[(.int .i64 0), (.slice none 0 0)]) 32 rfl Tryd.underlying29 info38 rfl (by decide) (by omega) v235 y234 t241 _ _ _ (fun k_ => k_ ≠ gb226) (fun k_ => ((fun k_ => k_ ≠ gb226)) k_ ∧ some k_ ≠ (v235 : Value).ownBlock) rfl rfl ?aO ?aR (fun _ hk => hk) ?aF ?aB ?aS ?aL ?_
                                    (case aR => exact (by skip; exact Kd.N_F (Kd.N_mono (ok' := (fun k_ => ((fun k_ => k_ ≠ gb226)) k_ ∧ some k_ ≠ (v235 : Value).ownBlock)) (HO243.out) (fun k_ hk => ⟨hk.2, hk.1⟩))))
                                    (case aB => exact (by repeat (first | (with_reducible first | exact HB.out | apply below_alloc | apply pw_below_drewN | apply below_drew1 | refine below_set ?_ GE226.out) | exact HB.out)))
                                    (case aF => exact (fun k_ hk => Kd.freshB (g := gb226) (o := .cells #[.int .i64 t221, .slice Ao19 t222.length co19] 38 (0, 0)) (by (with_reducible repeat (first | refine blk_drewN ?_ _ | refine blk_drew ?_ | refine blk_alloc ?_ _)); exact BK226.out) k_ hk))
                                    (case aO => exact (by (with_reducible repeat (first | apply Kd.N_alloc | apply Kd.N_drewN | apply Kd.N_drew)); exact Kd.N_mono HO236.out (fun _ hk => hk.2)))
                                    (case aS => exact (below_size (by repeat (first | (with_reducible first | exact HB.out | apply below_alloc | apply pw_below_drewN | apply below_drew1 | refine below_set ?_ GE226.out) | exact HB.out))))
                                    (case aL => have := LMc33.out; omega)
                                    intro v245 w49 ho hb hg hat
                                    rw [← Ny244.out] at ho
                                    have n0_ := Aside0.mk (Kd.V_afterv (ok := (fun k_ => some k_ ≠ (.slice Ao50 t241.length co50 : Value).ownBlock ∧ k_ ≠ gb226)) (by (with_reducible repeat (first | apply Kd.V_alloc | apply Kd.V_drewN | apply Kd.V_drew)); exact Kd.V_mono HO_227001.out (fun _ hk => ⟨⟨hk.2.1, hk.2.2⟩, hk.1⟩)) hg hat)
                                    have n1_ := Aside0.mk (blk_grown (g := gb226) (o := .cells #[.int .i64 t221, .slice Ao19 t222.length co19] 38 (0, 0)) (by (with_reducible repeat (first | refine blk_drewN ?_ _ | refine blk_drew ?_ | refine blk_alloc ?_ _)); exact BK226.out) hg (Kd.N_away HO236.out (fun _ hk => hk.2)))
                                    have n2_ := Aside0.mk (Kd.N_afterv (ok := (fun k_ => k_ ≠ gb226)) (by (with_reducible repeat (first | apply Kd.N_alloc | apply Kd.N_drewN | apply Kd.N_drew)); exact Kd.N_mono HO243.out (fun _ hk => ⟨hk.2, hk.1⟩)) hg hat)
                                    have n3_ := Aside0.mk (hb)
                                    have n4_ := Aside0.mk (ho)
                                    clear HO_227001; clear BK226; clear HO243; clear HB; clear HO236; have HO_227001 := n0_; have BK226 := n1_; have HO243 := n2_; have HB := n3_; have HO246 := n4_; clear n0_ n1_ n2_ n3_ n4_; clear ho hb hg hat
                                    refine hK.out _ _ ⟨(blk_cell BK226.out 0).trans rfl, (blk_cell BK226.out 1).trans rfl⟩ (fun hHeld => ?_)
                                    clear hK K
                                    refine norm_ (a' := ?_) ?_ ?_
                                    rotate_left
                                    · show Act.put _ (some 71) _ = _
                                      simp only [Act.put, List.setIfInBounds_toArray, List.set_cons_zero, List.set_cons_succ, i64_w, i32_w]
                                      rfl
                                    exact norm_ (by first | (simp only [putAll, Act.put, List.setIfInBounds_toArray, List.set_cons_zero, List.set_cons_succ]; done) | (simp only [putAll, Act.put, List.setIfInBounds_toArray, List.set_cons_zero, List.set_cons_succ]; rfl) | (simp only [putAll, Act.put, List.setIfInBounds_toArray, List.set_cons_zero, List.set_cons_succ, *]; done)) (hJ0_4_5 (v235, .slice Ao50 t241.length co50, v245) _ ⟨hHeld, (by (with_reducible repeat (first | apply Kd.N_alloc | apply Kd.N_drewN | apply Kd.N_drew)); exact Kd.N_mono HO243.out (fun _ hk => ⟨hk.2, hk.1⟩)), (by (with_reducible repeat (first | apply Kd.N_alloc | apply Kd.N_drewN | apply Kd.N_drew)); exact HO246.out), (by (with_reducible repeat (first | apply Kd.V_alloc | apply Kd.V_drewN | apply Kd.V_drew)); exact Kd.V_mono HO_227001.out (fun _ hk => ⟨hk.1.1, ⟨hk.2, hk.1.2⟩⟩)), (by (with_reducible repeat (first | refine blk_drewN ?_ _ | refine blk_drew ?_ | refine blk_alloc ?_ _)); exact BK226.out), (by repeat (first | (with_reducible first | exact HB.out | apply below_alloc | apply pw_below_drewN | apply below_drew1 | refine below_set ?_ GE226.out) | exact HB.out))⟩)
                                  · skip
                                    refine Kd.N_lit_step k38 _ 38 ?hg (N' := 73) ?hd (xs := ([(⟨t221, t222⟩ : S38)] : List (S38))) (inner := [.int .i64 t221, .slice Ao19 t222.length co19]) (ok := (fun k_ => some k_ ≠ (v235 : Value).ownBlock ∧ some k_ ≠ (.slice Ao50 t241.length co50 : Value).ownBlock ∧ k_ ≠ gb226)) (okp := (fun k_ => some k_ ≠ (v235 : Value).ownBlock ∧ some k_ ≠ (.slice Ao50 t241.length co50 : Value).ownBlock ∧ k_ ≠ gb226)) ?hr ?hp (fun _ hk => hk) ((show ∀ k_, w48.heap.size ≤ k_ → (fun k_ => some k_ ≠ (v235 : Value).ownBlock ∧ some k_ ≠ (.slice Ao50 t241.length co50 : Value).ownBlock ∧ k_ ≠ gb226) k_ from fun k_ hk => ⟨Kd.fresh' (Kd.N_lt (by (with_reducible repeat (first | apply Kd.N_alloc | apply Kd.N_drewN | apply Kd.N_drew)); exact HO236.out)) k_ hk, Kd.fresh' (Kd.N_lt (by (with_reducible repeat (first | apply Kd.N_alloc | apply Kd.N_drewN | apply Kd.N_drew)); exact HO243.out)) k_ hk, Kd.freshB (g := gb226) (o := .cells #[.int .i64 t221, .slice Ao19 t222.length co19] 38 (0, 0)) (by (with_reducible repeat (first | refine blk_drewN ?_ _ | refine blk_drew ?_ | refine blk_alloc ?_ _)); exact BK226.out) k_ hk⟩) _ (Nat.le_refl _)) (Below.refl _ _) (Nat.le_refl _) (by simp) ?_; (case hd => rfl); (case hg => rfl); (case hr => first | (go_simp; done) | (go_simp; rfl) | (go_simp; simp only [u8tail]; done)); (case hp => exact (Reps.c2 (show Kd.FK k38 _ _ (⟨t221, t222⟩ : S38) [.int .i64 t221, .slice Ao19 t222.length co19] from (k38_mkF _ _ (⟨t221, t222⟩ : S38) (Kd.V_reads' (Kd.V_mono (ok' := (fun k_ => some k_ ≠ (v235 : Value).ownBlock ∧ some k_ ≠ (.slice Ao50 t241.length co50 : Value).ownBlock ∧ k_ ≠ gb226)) (HO_227001.out) (fun k_ hk => ⟨hk.1, ⟨hk.2.1, hk.2.2⟩⟩))).2.1 (Kd.V_F (Kd.V_mono (ok' := (fun k_ => some k_ ≠ (v235 : Value).ownBlock ∧ some k_ ≠ (.slice Ao50 t241.length co50 : Value).ownBlock ∧ k_ ≠ gb226)) (HO_227001.out) (fun k_ hk => ⟨hk.1, ⟨hk.2.1, hk.2.2⟩⟩))))) (Reps.none _ _)))
                                    intro v248 w49 ho50 hb hg_ hnew_
                                    clear hg_ hnew_
                                    (first | rw [← Ny247.out] at ho50 | (simp only [Int.reduceToNat] at ho50; rw [← Ny247.out] at ho50))
                                    have n0_ := Aside0.mk (Kd.V_elder' (by (with_reducible repeat (first | apply Kd.V_alloc | apply Kd.V_drewN | apply Kd.V_drew)); exact HO_227001.out) (by first | exact Kd.N_base ho50 | exact Kd.S_base ho50 | exact Kd.R_base ho50) hb)
                                    have n1_ := Aside0.mk (Kd.N_elder' (by (with_reducible repeat (first | apply Kd.N_alloc | apply Kd.N_drewN | apply Kd.N_drew)); exact HO236.out) (by first | exact Kd.N_base ho50 | exact Kd.S_base ho50 | exact Kd.R_base ho50) hb)
                                    have n2_ := Aside0.mk (Kd.N_elder' (by (with_reducible repeat (first | apply Kd.N_alloc | apply Kd.N_drewN | apply Kd.N_drew)); exact HO243.out) (by first | exact Kd.N_base ho50 | exact Kd.S_base ho50 | exact Kd.R_base ho50) hb)
                                    have n3_ := Aside0.mk (Kd.N_lower ho50 (below_size (by repeat (first | (with_reducible first | exact HB.out | apply below_alloc | apply pw_below_drewN | apply below_drew1 | refine below_set ?_ GE226.out) | exact HB.out))))
                                    have n4_ := Aside0.mk (blk_below (g := gb226) (o := .cells #[.int .i64 t221, .slice Ao19 t222.length co19] 38 (0, 0)) (by (with_reducible repeat (first | refine blk_drewN ?_ _ | refine blk_drew ?_ | refine blk_alloc ?_ _)); exact BK226.out) hb)
                                    have n5_ := Aside0.mk (below_step (by repeat (first | (with_reducible first | exact HB.out | apply below_alloc | apply pw_below_drewN | apply below_drew1 | refine below_set ?_ GE226.out) | exact HB.out)) hb)
                                    clear HO_227001; clear HO236; clear HO243; clear BK226; clear HB; have HO_227001 := n0_; have HO236 := n1_; have HO243 := n2_; have HO249 := n3_; have BK226 := n4_; have HB := n5_; clear n0_ n1_ n2_ n3_ n4_ n5_; clear hb ho50
                                    refine hK.out _ _ ⟨(blk_cell BK226.out 0).trans rfl, (blk_cell BK226.out 1).trans rfl⟩ (fun hHeld => ?_)
                                    clear hK K
                                    refine norm_ (a' := ?_) ?_ ?_
                                    rotate_left
                                    · show Act.put _ (some 73) _ = _
                                      simp only [Act.put, List.setIfInBounds_toArray, List.set_cons_zero, List.set_cons_succ, i64_w, i32_w]
                                      rfl
                                    exact norm_ (by first | (simp only [putAll, Act.put, List.setIfInBounds_toArray, List.set_cons_zero, List.set_cons_succ]; done) | (simp only [putAll, Act.put, List.setIfInBounds_toArray, List.set_cons_zero, List.set_cons_succ]; rfl) | (simp only [putAll, Act.put, List.setIfInBounds_toArray, List.set_cons_zero, List.set_cons_succ, *]; done)) (hJ0_4_7 (v235, (.slice Ao50 t241.length co50), v248) _ ⟨hHeld, (by (with_reducible repeat (first | apply Kd.N_alloc | apply Kd.N_drewN | apply Kd.N_drew)); exact Kd.N_mono HO236.out (fun _ hk => ⟨hk.1.1, ⟨hk.2, hk.1.2⟩⟩)), (by (with_reducible repeat (first | apply Kd.N_alloc | apply Kd.N_drewN | apply Kd.N_drew)); exact Kd.N_mono HO243.out (fun _ hk => ⟨hk.1.1, ⟨hk.2, hk.1.2⟩⟩)), (by (with_reducible repeat (first | apply Kd.N_alloc | apply Kd.N_drewN | apply Kd.N_drew)); exact HO249.out), (by (with_reducible repeat (first | apply Kd.V_alloc | apply Kd.V_drewN | apply Kd.V_drew)); exact Kd.V_mono HO_227001.out (fun _ hk => ⟨hk.1.1, ⟨hk.1.2.1, ⟨hk.2, hk.1.2.2⟩⟩⟩)), (by (with_reducible repeat (first | refine blk_drewN ?_ _ | refine blk_drew ?_ | refine blk_alloc ?_ _)); exact BK226.out), (by repeat (first | (with_reducible first | exact HB.out | apply below_alloc | apply pw_below_drewN | apply below_drew1 | refine below_set ?_ GE226.out) | exact HB.out))⟩)
                              · skip
                                rintro ⟨v235, v242, v248⟩ w50 ⟨hS_, h0_, h1_, h2_, h3_, h4_, h5_⟩
                                have n0_ : Aside0 (Kd.N k38 38 w50 w.heap.size (fun k_ => some k_ ≠ (v242 : Value).ownBlock ∧ some k_ ≠ (v248 : Value).ownBlock ∧ k_ ≠ gb226) v235 y234) := ⟨h0_⟩
                                have n1_ : Aside0 (Kd.N k38 38 w50 w.heap.size (fun k_ => some k_ ≠ (v235 : Value).ownBlock ∧ some k_ ≠ (v248 : Value).ownBlock ∧ k_ ≠ gb226) v242 t241) := ⟨h1_⟩
                                have n2_ : Aside0 (Kd.N k38 38 w50 w.heap.size (fun k_ => some k_ ≠ (v235 : Value).ownBlock ∧ some k_ ≠ (v242 : Value).ownBlock ∧ k_ ≠ gb226) v248 y247) := ⟨h2_⟩
                                have n3_ : Aside0 (Kd.V (Kd.int .u8) 5 w50 w.heap.size (fun k_ => some k_ ≠ (v235 : Value).ownBlock ∧ some k_ ≠ (v242 : Value).ownBlock ∧ some k_ ≠ (v248 : Value).ownBlock ∧ k_ ≠ gb226) (.slice Ao19 t222.length co19) t222) := ⟨h3_⟩
                                have n4_ : Aside0 (w50.heap[gb226]? = some (.cells #[.int .i64 t221, .slice Ao19 t222.length co19] 38 (0, 0))) := ⟨h4_⟩
                                have n5_ : Aside0 (Below w.heap.size w w50) := ⟨h5_⟩
                                clear HO_227001; clear BK226; clear HB; clear h0_ h1_ h2_ h3_ h4_ h5_; have HO236 := n0_; have HO243 := n1_; have HO249 := n2_; have HO_227001 := n3_; have BK226 := n4_; have HB := n5_; clear n0_ n1_ n2_ n3_ n4_ n5_
                                have hHeld : w50.cell? ⟨gb226, 0, none⟩ = some (.int .i64 t221) ∧ w50.cell? ⟨gb226, 1, none⟩ = some (.slice Ao19 t222.length co19) := hS_
                                obtain ⟨Ao52, co52, eo52⟩ := Kd.N_slice HO243.out
                                (first | subst eo52 | (injection eo52 with f1_ f2_ f3_; have f4_ := f1_.symm; have f5_ := f3_.symm; clear f1_ f2_ f3_; subst f4_; subst f5_))
                                refine norm_ (a' := ?_) ?_ ?_
                                rotate_left
                                · simp only [putAll, Act.put, List.setIfInBounds_toArray, List.set_cons_zero, List.set_cons_succ, *]
                                  rfl
                                refine one_ (i := 5) (N := some 71) #[true, true, true, true, true, true, true, true, false, true, true, true, false, false, false] rfl rfl (one_of HT_.out (by kernel_rfl)) (by decide) (fun K hK => ?_)
                                refine Kd.N_append_rows_step k38 (w0 := w) w.heap.size (by rfl) (.tmp 66) (.tmp 70) 29 38 (.agg #[(.int .i64 0), (.slice none 0 0)]) 32 rfl Tryd.underlying29 info38 rfl (by decide) (by omega) v235 y234 t241 _ _ _ (fun k_ => some k_ ≠ (v248 : Value).ownBlock ∧ k_ ≠ gb226) (fun k_ => ((fun k_ => some k_ ≠ (v248 : Value).ownBlock ∧ k_ ≠ gb226)) k_ ∧ some k_ ≠ (v235 : Value).ownBlock) rfl rfl ?aO ?aR (fun _ hk => hk) ?aF ?aB ?aS ?aL ?_
                                (case aR => exact (by skip; exact Kd.N_F (Kd.N_mono (ok' := (fun k_ => ((fun k_ => some k_ ≠ (v248 : Value).ownBlock ∧ k_ ≠ gb226)) k_ ∧ some k_ ≠ (v235 : Value).ownBlock)) (HO243.out) (fun k_ hk => ⟨⟨hk.2.1, hk.2.2⟩, hk.1⟩))))
                                (case aB => exact (by repeat (first | (with_reducible first | exact HB.out | apply below_alloc | apply pw_below_drewN | apply below_drew1 | refine below_set ?_ GE226.out) | exact HB.out)))
                                (case aF => exact (fun k_ hk => ⟨Kd.fresh' (Kd.N_lt (by (with_reducible repeat (first | apply Kd.N_alloc | apply Kd.N_drewN | apply Kd.N_drew)); exact HO249.out)) k_ hk, Kd.freshB (g := gb226) (o := .cells #[.int .i64 t221, .slice Ao19 t222.length co19] 38 (0, 0)) (by (with_reducible repeat (first | refine blk_drewN ?_ _ | refine blk_drew ?_ | refine blk_alloc ?_ _)); exact BK226.out) k_ hk⟩))
                                (case aO => exact (by (with_reducible repeat (first | apply Kd.N_alloc | apply Kd.N_drewN | apply Kd.N_drew)); exact Kd.N_mono HO236.out (fun _ hk => ⟨hk.2.1, hk.2.2⟩)))
                                (case aS => exact (below_size (by repeat (first | (with_reducible first | exact HB.out | apply below_alloc | apply pw_below_drewN | apply below_drew1 | refine below_set ?_ GE226.out) | exact HB.out))))
                                (case aL => have := LMc33.out; omega)
                                intro v245 w51 ho hb hg hat
                                rw [← Ny244.out] at ho
                                have n0_ := Aside0.mk (Kd.V_afterv (ok := (fun k_ => some k_ ≠ (.slice Ao52 t241.length co52 : Value).ownBlock ∧ some k_ ≠ (v248 : Value).ownBlock ∧ k_ ≠ gb226)) (by (with_reducible repeat (first | apply Kd.V_alloc | apply Kd.V_drewN | apply Kd.V_drew)); exact Kd.V_mono HO_227001.out (fun _ hk => ⟨⟨hk.2.1, ⟨hk.2.2.1, hk.2.2.2⟩⟩, hk.1⟩)) hg hat)
                                have n1_ := Aside0.mk (blk_grown (g := gb226) (o := .cells #[.int .i64 t221, .slice Ao19 t222.length co19] 38 (0, 0)) (by (with_reducible repeat (first | refine blk_drewN ?_ _ | refine blk_drew ?_ | refine blk_alloc ?_ _)); exact BK226.out) hg (Kd.N_away HO236.out (fun _ hk => hk.2.2)))
                                have n2_ := Aside0.mk (Kd.N_afterv (ok := (fun k_ => some k_ ≠ (v248 : Value).ownBlock ∧ k_ ≠ gb226)) (by (with_reducible repeat (first | apply Kd.N_alloc | apply Kd.N_drewN | apply Kd.N_drew)); exact Kd.N_mono HO243.out (fun _ hk => ⟨⟨hk.2.1, hk.2.2⟩, hk.1⟩)) hg hat)
                                have n3_ := Aside0.mk (Kd.N_afterv (ok := (fun k_ => some k_ ≠ (.slice Ao52 t241.length co52 : Value).ownBlock ∧ k_ ≠ gb226)) (by (with_reducible repeat (first | apply Kd.N_alloc | apply Kd.N_drewN | apply Kd.N_drew)); exact Kd.N_mono HO249.out (fun _ hk => ⟨⟨hk.2.1, hk.2.2⟩, hk.1⟩)) hg hat)
                                have n4_ := Aside0.mk (hb)
                                have n5_ := Aside0.mk (ho)
                                clear HO_227001; clear BK226; clear HO243; clear HO249; clear HB; clear HO236; have HO_227001 := n0_; have BK226 := n1_; have HO243 := n2_; have HO249 := n3_; have HB := n4_; have HO246 := n5_; clear n0_ n1_ n2_ n3_ n4_ n5_; clear ho hb hg hat
                                refine hK.out _ _ ⟨(blk_cell BK226.out 0).trans rfl, (blk_cell BK226.out 1).trans rfl⟩ (fun hHeld => ?_)
                                clear hK K
                                refine norm_ (a' := ?_) ?_ ?_
                                rotate_left
                                · show Act.put _ (some 71) _ = _
                                  simp only [Act.put, List.setIfInBounds_toArray, List.set_cons_zero, List.set_cons_succ, i64_w, i32_w]
                                  rfl
                                exact norm_ (by first | (simp only [putAll, Act.put, List.setIfInBounds_toArray, List.set_cons_zero, List.set_cons_succ]; done) | (simp only [putAll, Act.put, List.setIfInBounds_toArray, List.set_cons_zero, List.set_cons_succ]; rfl) | (simp only [putAll, Act.put, List.setIfInBounds_toArray, List.set_cons_zero, List.set_cons_succ, *]; done)) (hJ0_4_5_7 (v235, .slice Ao52 t241.length co52, v245, v248) _ ⟨hHeld, (by (with_reducible repeat (first | apply Kd.N_alloc | apply Kd.N_drewN | apply Kd.N_drew)); exact Kd.N_mono HO243.out (fun _ hk => ⟨hk.2, ⟨hk.1.1, hk.1.2⟩⟩)), (by (with_reducible repeat (first | apply Kd.N_alloc | apply Kd.N_drewN | apply Kd.N_drew)); exact HO246.out), (by (with_reducible repeat (first | apply Kd.N_alloc | apply Kd.N_drewN | apply Kd.N_drew)); exact Kd.N_mono HO249.out (fun _ hk => ⟨hk.1.1, ⟨hk.2, hk.1.2⟩⟩)), (by (with_reducible repeat (first | apply Kd.V_alloc | apply Kd.V_drewN | apply Kd.V_drew)); exact Kd.V_mono HO_227001.out (fun _ hk => ⟨hk.1.1, ⟨hk.2, ⟨hk.1.2.1, hk.1.2.2⟩⟩⟩)), (by (with_reducible repeat (first | refine blk_drewN ?_ _ | refine blk_drew ?_ | refine blk_alloc ?_ _)); exact BK226.out), (by repeat (first | (with_reducible first | exact HB.out | apply below_alloc | apply pw_below_drewN | apply below_drew1 | refine below_set ?_ GE226.out) | exact HB.out))⟩)
                            · skip
                              rintro ⟨v235, v242, v245⟩ w50 ⟨hS_, h0_, h1_, h2_, h3_, h4_⟩
                              have n0_ : Aside0 (Kd.N k38 38 w50 w.heap.size (fun k_ => some k_ ≠ (v245 : Value).ownBlock ∧ k_ ≠ gb226) v242 t241) := ⟨h0_⟩
                              have n1_ : Aside0 (Kd.N k38 38 w50 w.heap.size (fun k_ => k_ ≠ gb226) v245 y244) := ⟨h1_⟩
                              have n2_ : Aside0 (Kd.V (Kd.int .u8) 5 w50 w.heap.size (fun k_ => some k_ ≠ (v242 : Value).ownBlock ∧ some k_ ≠ (v245 : Value).ownBlock ∧ k_ ≠ gb226) (.slice Ao19 t222.length co19) t222) := ⟨h2_⟩
                              have n3_ : Aside0 (w50.heap[gb226]? = some (.cells #[.int .i64 t221, .slice Ao19 t222.length co19] 38 (0, 0))) := ⟨h3_⟩
                              have n4_ : Aside0 (Below w.heap.size w w50) := ⟨h4_⟩
                              clear HO_227001; clear BK226; clear HB; clear h0_ h1_ h2_ h3_ h4_; have HO243 := n0_; have HO246 := n1_; have HO_227001 := n2_; have BK226 := n3_; have HB := n4_; clear n0_ n1_ n2_ n3_ n4_
                              have hHeld : w50.cell? ⟨gb226, 0, none⟩ = some (.int .i64 t221) ∧ w50.cell? ⟨gb226, 1, none⟩ = some (.slice Ao19 t222.length co19) := hS_
                              refine norm_ (a' := ?_) ?_ ?_
                              rotate_left
                              · simp only [putAll, Act.put, List.setIfInBounds_toArray, List.set_cons_zero, List.set_cons_succ, *]
                                rfl
                              refine one_ (i := 7) (N := some 73) #[true, true, true, true, true, true, true, true, false, true, true, true, false, false, false] rfl rfl (one_of HT_.out (by kernel_rfl)) (by decide) (fun K hK => ?_)
                              refine Kd.N_lit_step k38 _ 38 ?hg (N' := 73) ?hd (xs := ([(⟨t221, t222⟩ : S38)] : List (S38))) (inner := [.int .i64 t221, .slice Ao19 t222.length co19]) (ok := (fun k_ => some k_ ≠ (v242 : Value).ownBlock ∧ some k_ ≠ (v245 : Value).ownBlock ∧ k_ ≠ gb226)) (okp := (fun k_ => some k_ ≠ (v242 : Value).ownBlock ∧ some k_ ≠ (v245 : Value).ownBlock ∧ k_ ≠ gb226)) ?hr ?hp (fun _ hk => hk) ((show ∀ k_, w50.heap.size ≤ k_ → (fun k_ => some k_ ≠ (v242 : Value).ownBlock ∧ some k_ ≠ (v245 : Value).ownBlock ∧ k_ ≠ gb226) k_ from fun k_ hk => ⟨Kd.fresh' (Kd.N_lt (by (with_reducible repeat (first | apply Kd.N_alloc | apply Kd.N_drewN | apply Kd.N_drew)); exact HO243.out)) k_ hk, Kd.fresh' (Kd.N_lt (by (with_reducible repeat (first | apply Kd.N_alloc | apply Kd.N_drewN | apply Kd.N_drew)); exact HO246.out)) k_ hk, Kd.freshB (g := gb226) (o := .cells #[.int .i64 t221, .slice Ao19 t222.length co19] 38 (0, 0)) (by (with_reducible repeat (first | refine blk_drewN ?_ _ | refine blk_drew ?_ | refine blk_alloc ?_ _)); exact BK226.out) k_ hk⟩) _ (Nat.le_refl _)) (Below.refl _ _) (Nat.le_refl _) (by simp) ?_; (case hd => rfl); (case hg => rfl); (case hr => first | (go_simp; done) | (go_simp; rfl) | (go_simp; simp only [u8tail]; done)); (case hp => exact (Reps.c2 (show Kd.FK k38 _ _ (⟨t221, t222⟩ : S38) [.int .i64 t221, .slice Ao19 t222.length co19] from (k38_mkF _ _ (⟨t221, t222⟩ : S38) (Kd.V_reads' (Kd.V_mono (ok' := (fun k_ => some k_ ≠ (v242 : Value).ownBlock ∧ some k_ ≠ (v245 : Value).ownBlock ∧ k_ ≠ gb226)) (HO_227001.out) (fun k_ hk => ⟨hk.1, ⟨hk.2.1, hk.2.2⟩⟩))).2.1 (Kd.V_F (Kd.V_mono (ok' := (fun k_ => some k_ ≠ (v242 : Value).ownBlock ∧ some k_ ≠ (v245 : Value).ownBlock ∧ k_ ≠ gb226)) (HO_227001.out) (fun k_ hk => ⟨hk.1, ⟨hk.2.1, hk.2.2⟩⟩))))) (Reps.none _ _)))
                              intro v248 w51 ho52 hb hg_ hnew_
                              clear hg_ hnew_
                              (first | rw [← Ny247.out] at ho52 | (simp only [Int.reduceToNat] at ho52; rw [← Ny247.out] at ho52))
                              have n0_ := Aside0.mk (Kd.V_elder' (by (with_reducible repeat (first | apply Kd.V_alloc | apply Kd.V_drewN | apply Kd.V_drew)); exact HO_227001.out) (by first | exact Kd.N_base ho52 | exact Kd.S_base ho52 | exact Kd.R_base ho52) hb)
                              have n1_ := Aside0.mk (Kd.N_elder' (by (with_reducible repeat (first | apply Kd.N_alloc | apply Kd.N_drewN | apply Kd.N_drew)); exact HO243.out) (by first | exact Kd.N_base ho52 | exact Kd.S_base ho52 | exact Kd.R_base ho52) hb)
                              have n2_ := Aside0.mk (Kd.N_elder' (by (with_reducible repeat (first | apply Kd.N_alloc | apply Kd.N_drewN | apply Kd.N_drew)); exact HO246.out) (by first | exact Kd.N_base ho52 | exact Kd.S_base ho52 | exact Kd.R_base ho52) hb)
                              have n3_ := Aside0.mk (Kd.N_lower ho52 (below_size (by repeat (first | (with_reducible first | exact HB.out | apply below_alloc | apply pw_below_drewN | apply below_drew1 | refine below_set ?_ GE226.out) | exact HB.out))))
                              have n4_ := Aside0.mk (blk_below (g := gb226) (o := .cells #[.int .i64 t221, .slice Ao19 t222.length co19] 38 (0, 0)) (by (with_reducible repeat (first | refine blk_drewN ?_ _ | refine blk_drew ?_ | refine blk_alloc ?_ _)); exact BK226.out) hb)
                              have n5_ := Aside0.mk (below_step (by repeat (first | (with_reducible first | exact HB.out | apply below_alloc | apply pw_below_drewN | apply below_drew1 | refine below_set ?_ GE226.out) | exact HB.out)) hb)
                              clear HO_227001; clear HO243; clear HO246; clear BK226; clear HB; have HO_227001 := n0_; have HO243 := n1_; have HO246 := n2_; have HO249 := n3_; have BK226 := n4_; have HB := n5_; clear n0_ n1_ n2_ n3_ n4_ n5_; clear hb ho52
                              refine hK.out _ _ ⟨(blk_cell BK226.out 0).trans rfl, (blk_cell BK226.out 1).trans rfl⟩ (fun hHeld => ?_)
                              clear hK K
                              refine norm_ (a' := ?_) ?_ ?_
                              rotate_left
                              · show Act.put _ (some 73) _ = _
                                simp only [Act.put, List.setIfInBounds_toArray, List.set_cons_zero, List.set_cons_succ, i64_w, i32_w]
                                rfl
                              exact norm_ (by first | (simp only [putAll, Act.put, List.setIfInBounds_toArray, List.set_cons_zero, List.set_cons_succ]; done) | (simp only [putAll, Act.put, List.setIfInBounds_toArray, List.set_cons_zero, List.set_cons_succ]; rfl) | (simp only [putAll, Act.put, List.setIfInBounds_toArray, List.set_cons_zero, List.set_cons_succ, *]; done)) (hJ0_4_5_7 (v235, v242, v245, v248) _ ⟨hHeld, (by (with_reducible repeat (first | apply Kd.N_alloc | apply Kd.N_drewN | apply Kd.N_drew)); exact Kd.N_mono HO243.out (fun _ hk => ⟨hk.1.1, ⟨hk.2, hk.1.2⟩⟩)), (by (with_reducible repeat (first | apply Kd.N_alloc | apply Kd.N_drewN | apply Kd.N_drew)); exact Kd.N_mono HO246.out (fun _ hk => ⟨hk.2, hk.1⟩)), (by (with_reducible repeat (first | apply Kd.N_alloc | apply Kd.N_drewN | apply Kd.N_drew)); exact HO249.out), (by (with_reducible repeat (first | apply Kd.V_alloc | apply Kd.V_drewN | apply Kd.V_drew)); exact Kd.V_mono HO_227001.out (fun _ hk => ⟨hk.1.1, ⟨hk.1.2.1, ⟨hk.2, hk.1.2.2⟩⟩⟩)), (by (with_reducible repeat (first | refine blk_drewN ?_ _ | refine blk_drew ?_ | refine blk_alloc ?_ _)); exact BK226.out), (by repeat (first | (with_reducible first | exact HB.out | apply below_alloc | apply pw_below_drewN | apply below_drew1 | refine below_set ?_ GE226.out) | exact HB.out))⟩)
                          rintro ⟨v235, v242, v245, v248⟩ w52 ⟨hS_, h0_, h1_, h2_, h3_, h4_, h5_⟩
                          have n0_ : Aside0 (Kd.N k38 38 w52 w.heap.size (fun k_ => some k_ ≠ (v245 : Value).ownBlock ∧ some k_ ≠ (v248 : Value).ownBlock ∧ k_ ≠ gb226) v242 t241) := ⟨h0_⟩
                          have n1_ : Aside0 (Kd.N k38 38 w52 w.heap.size (fun k_ => some k_ ≠ (v248 : Value).ownBlock ∧ k_ ≠ gb226) v245 y244) := ⟨h1_⟩
                          have n2_ : Aside0 (Kd.N k38 38 w52 w.heap.size (fun k_ => some k_ ≠ (v242 : Value).ownBlock ∧ some k_ ≠ (v245 : Value).ownBlock ∧ k_ ≠ gb226) v248 y247) := ⟨h2_⟩
                          have n3_ : Aside0 (Kd.V (Kd.int .u8) 5 w52 w.heap.size (fun k_ => some k_ ≠ (v242 : Value).ownBlock ∧ some k_ ≠ (v245 : Value).ownBlock ∧ some k_ ≠ (v248 : Value).ownBlock ∧ k_ ≠ gb226) (.slice Ao19 t222.length co19) t222) := ⟨h3_⟩
                          have n4_ : Aside0 (w52.heap[gb226]? = some (.cells #[.int .i64 t221, .slice Ao19 t222.length co19] 38 (0, 0))) := ⟨h4_⟩
                          have n5_ : Aside0 (Below w.heap.size w w52) := ⟨h5_⟩
                          clear HO_227001; clear BK226; clear HB; clear h0_ h1_ h2_ h3_ h4_ h5_; have HO243 := n0_; have HO246 := n1_; have HO249 := n2_; have HO_227001 := n3_; have BK226 := n4_; have HB := n5_; clear n0_ n1_ n2_ n3_ n4_ n5_
                          have hHeld : w52.cell? ⟨gb226, 0, none⟩ = some (.int .i64 t221) ∧ w52.cell? ⟨gb226, 1, none⟩ = some (.slice Ao19 t222.length co19) := hS_
                          obtain ⟨Ao54, co54, eo54⟩ := Kd.N_slice HO249.out
                          (first | subst eo54 | (injection eo54 with f1_ f2_ f3_; have f4_ := f1_.symm; have f5_ := f3_.symm; clear f1_ f2_ f3_; subst f4_; subst f5_))
                          refine norm_ (a' := ?_) ?_ ?_
                          rotate_left
                          · simp only [putAll, Act.put, List.setIfInBounds_toArray, List.set_cons_zero, List.set_cons_succ, *]
                            rfl
                          refine one_ (i := 8) (N := some 74) #[true, true, true, true, true, true, true, true, true, true, true, true, false, false, false] rfl rfl (one_of HT_.out (by kernel_rfl)) (by decide) (fun K hK => ?_)
                          refine Kd.N_append_rows_step k38 (w0 := w) w.heap.size (by rfl) (.tmp 71) (.tmp 73) 29 38 (.agg #[(.int .i64 0), (.slice none 0 0)]) 32 rfl Tryd.underlying29 info38 rfl (by decide) (by omega) v245 y244 y247 _ _ _ (fun k_ => k_ ≠ gb226) (fun k_ => ((fun k_ => k_ ≠ gb226)) k_ ∧ some k_ ≠ (v245 : Value).ownBlock) rfl rfl ?aO ?aR (fun _ hk => hk) ?aF ?aB ?aS ?aL ?_
                          (case aR => exact (by skip; exact Kd.N_F (Kd.N_mono (ok' := (fun k_ => ((fun k_ => k_ ≠ gb226)) k_ ∧ some k_ ≠ (v245 : Value).ownBlock)) (HO249.out) (fun k_ hk => ⟨hk.2.2, hk.2.1⟩))))
                          (case aB => exact (by repeat (first | (with_reducible first | exact HB.out | apply below_alloc | apply pw_below_drewN | apply below_drew1 | refine below_set ?_ GE226.out) | exact HB.out)))
                          (case aF => exact (fun k_ hk => Kd.freshB (g := gb226) (o := .cells #[.int .i64 t221, .slice Ao19 t222.length co19] 38 (0, 0)) (by (with_reducible repeat (first | refine blk_drewN ?_ _ | refine blk_drew ?_ | refine blk_alloc ?_ _)); exact BK226.out) k_ hk))
                          (case aO => exact (by (with_reducible repeat (first | apply Kd.N_alloc | apply Kd.N_drewN | apply Kd.N_drew)); exact Kd.N_mono HO246.out (fun _ hk => hk.2)))
                          (case aS => exact (below_size (by repeat (first | (with_reducible first | exact HB.out | apply below_alloc | apply pw_below_drewN | apply below_drew1 | refine below_set ?_ GE226.out) | exact HB.out))))
                          (case aL => have := LMc34.out; omega)
                          intro v251 w53 ho hb hg hat
                          rw [← Ny250.out] at ho
                          have n0_ := Aside0.mk (Kd.V_afterv (ok := (fun k_ => some k_ ≠ (v242 : Value).ownBlock ∧ some k_ ≠ (.slice Ao54 y247.length co54 : Value).ownBlock ∧ k_ ≠ gb226)) (by (with_reducible repeat (first | apply Kd.V_alloc | apply Kd.V_drewN | apply Kd.V_drew)); exact Kd.V_mono HO_227001.out (fun _ hk => ⟨⟨hk.1, ⟨hk.2.2.1, hk.2.2.2⟩⟩, hk.2.1⟩)) hg hat)
                          have n1_ := Aside0.mk (blk_grown (g := gb226) (o := .cells #[.int .i64 t221, .slice Ao19 t222.length co19] 38 (0, 0)) (by (with_reducible repeat (first | refine blk_drewN ?_ _ | refine blk_drew ?_ | refine blk_alloc ?_ _)); exact BK226.out) hg (Kd.N_away HO246.out (fun _ hk => hk.2)))
                          have n2_ := Aside0.mk (Kd.N_afterv (ok := (fun k_ => some k_ ≠ (.slice Ao54 y247.length co54 : Value).ownBlock ∧ k_ ≠ gb226)) (by (with_reducible repeat (first | apply Kd.N_alloc | apply Kd.N_drewN | apply Kd.N_drew)); exact Kd.N_mono HO243.out (fun _ hk => ⟨⟨hk.2.1, hk.2.2⟩, hk.1⟩)) hg hat)
                          have n3_ := Aside0.mk (Kd.N_afterv (ok := (fun k_ => some k_ ≠ (v242 : Value).ownBlock ∧ k_ ≠ gb226)) (by (with_reducible repeat (first | apply Kd.N_alloc | apply Kd.N_drewN | apply Kd.N_drew)); exact Kd.N_mono HO249.out (fun _ hk => ⟨⟨hk.1, hk.2.2⟩, hk.2.1⟩)) hg hat)
                          have n4_ := Aside0.mk (hb)
                          have n5_ := Aside0.mk (ho)
                          clear HO_227001; clear BK226; clear HO243; clear HO249; clear HB; clear HO246; have HO_227001 := n0_; have BK226 := n1_; have HO243 := n2_; have HO249 := n3_; have HB := n4_; have HO252 := n5_; clear n0_ n1_ n2_ n3_ n4_ n5_; clear ho hb hg hat
                          refine hK.out _ _ ⟨(blk_cell BK226.out 0).trans rfl, (blk_cell BK226.out 1).trans rfl⟩ (fun hHeld => ?_)
                          clear hK K
                          refine norm_ (a' := ?_) ?_ ?_
                          rotate_left
                          · show Act.put _ (some 74) _ = _
                            simp only [Act.put, List.setIfInBounds_toArray, List.set_cons_zero, List.set_cons_succ, i64_w, i32_w]
                            rfl
                          refine one_ (i := 12) (N := some 78) #[true, true, true, true, true, true, true, true, true, true, true, true, true, false, false] rfl rfl (one_of HT_.out (by kernel_rfl)) (by decide) (fun K hK => ?_)
                          refine goes_ Tryd.func12 (by kernel_rfl) rfl #[.slice A44 y253.length c44] (by rfl) rfl rfl (by (try simp only [List.map_toArray, List.map_cons, List.map_nil]); first | done | rfl | (simp only [List.length_drop, List.length_take]; rfl)) ?_
                          with_reducible refine (avocetlaw07_ours.calls kj14 (fun k_ => k_ < w.heap.size) _ _ y253 t257 _ ?side1 A37.out).mono ?_
                          (case side1 => exact Kd.V_mk HC256.out (Kd.F_below (Kd.C_F k36_heap HR256.out) (by repeat (first | (with_reducible first | exact HB.out | apply below_alloc | apply pw_below_drewN | apply below_drew1 | refine below_set ?_ GE226.out) | exact HB.out))))
                          rintro e w55 ⟨v258, rfl, ho0, hb⟩
                          refine ⟨_, rfl, ?_⟩
                          have n0_ := Aside0.mk (Kd.V_elder' (by (with_reducible repeat (first | apply Kd.V_alloc | apply Kd.V_drewN | apply Kd.V_drew)); exact HO_227001.out) (by first | exact Kd.N_base ho0 | exact Kd.S_base ho0 | exact Kd.R_base ho0) hb)
                          have n1_ := Aside0.mk (Kd.N_elder' (by (with_reducible repeat (first | apply Kd.N_alloc | apply Kd.N_drewN | apply Kd.N_drew)); exact HO243.out) (by first | exact Kd.N_base ho0 | exact Kd.S_base ho0 | exact Kd.R_base ho0) hb)
                          have n2_ := Aside0.mk (Kd.N_elder' (by (with_reducible repeat (first | apply Kd.N_alloc | apply Kd.N_drewN | apply Kd.N_drew)); exact HO249.out) (by first | exact Kd.N_base ho0 | exact Kd.S_base ho0 | exact Kd.R_base ho0) hb)
                          have n3_ := Aside0.mk (Kd.N_elder' (by (with_reducible repeat (first | apply Kd.N_alloc | apply Kd.N_drewN | apply Kd.N_drew)); exact HO252.out) (by first | exact Kd.N_base ho0 | exact Kd.S_base ho0 | exact Kd.R_base ho0) hb)
                          have n4_ := Aside0.mk (Kd.N_lower (Kd.N_mono (ok' := fun k_ => some k_ ≠ (v242 : Value).ownBlock ∧ some k_ ≠ (.slice Ao54 y247.length co54 : Value).ownBlock ∧ some k_ ≠ (v251 : Value).ownBlock ∧ k_ ≠ gb226) ho0 (fun k_ hk_ => ⟨Or.elim hk_ (fun hs_ => fun e_ => Nat.not_le.2 hs_ (Kd.N_base HO243.out k_ e_.symm)) (fun hn_ => (Kd.fresh' (Kd.N_lt (by (with_reducible repeat (first | apply Kd.N_alloc | apply Kd.N_drewN | apply Kd.N_drew)); exact HO243.out)) k_ hn_)), Or.elim hk_ (fun hs_ => fun e_ => Nat.not_le.2 hs_ (Kd.N_base HO249.out k_ e_.symm)) (fun hn_ => (Kd.fresh' (Kd.N_lt (by (with_reducible repeat (first | apply Kd.N_alloc | apply Kd.N_drewN | apply Kd.N_drew)); exact HO249.out)) k_ hn_)), Or.elim hk_ (fun hs_ => fun e_ => Nat.not_le.2 hs_ (Kd.N_base HO252.out k_ e_.symm)) (fun hn_ => (Kd.fresh' (Kd.N_lt (by (with_reducible repeat (first | apply Kd.N_alloc | apply Kd.N_drewN | apply Kd.N_drew)); exact HO252.out)) k_ hn_)), Or.elim hk_ (fun hs_ => fun e_ => Nat.not_le.2 hs_ (by rw [e_]; exact GW226.out)) (fun hn_ => (Kd.freshB (g := gb226) (o := .cells #[.int .i64 t221, .slice Ao19 t222.length co19] 38 (0, 0)) (by (with_reducible repeat (first | refine blk_drewN ?_ _ | refine blk_drew ?_ | refine blk_alloc ?_ _)); exact BK226.out) k_ hn_))⟩)) (below_size (by repeat (first | (with_reducible first | exact HB.out | apply below_alloc | apply pw_below_drewN | apply below_drew1 | refine below_set ?_ GE226.out) | exact HB.out))))
                          have n5_ := Aside0.mk (blk_below (g := gb226) (o := .cells #[.int .i64 t221, .slice Ao19 t222.length co19] 38 (0, 0)) (by (with_reducible repeat (first | refine blk_drewN ?_ _ | refine blk_drew ?_ | refine blk_alloc ?_ _)); exact BK226.out) hb)
                          have n6_ := Aside0.mk (below_step (by repeat (first | (with_reducible first | exact HB.out | apply below_alloc | apply pw_below_drewN | apply below_drew1 | refine below_set ?_ GE226.out) | exact HB.out)) hb)
                          clear HO_227001; clear HO243; clear HO249; clear HO252; clear BK226; clear HB; have HO_227001 := n0_; have HO243 := n1_; have HO249 := n2_; have HO252 := n3_; have HO259 := n4_; have BK226 := n5_; have HB := n6_; clear n0_ n1_ n2_ n3_ n4_ n5_ n6_; (try clear hb); (try clear hb2); (try clear hk); (try clear hi); (try clear ho0)
                          obtain ⟨Ao57, co57, eo57⟩ := Kd.N_slice HO259.out
                          (first | subst eo57 | (injection eo57 with f1_ f2_ f3_; have f4_ := f1_.symm; have f5_ := f3_.symm; clear f1_ f2_ f3_; subst f4_; subst f5_))
                          refine hK.out _ _ ⟨(blk_cell BK226.out 0).trans rfl, (blk_cell BK226.out 1).trans rfl⟩ (fun hHeld => ?_)
                          clear hK K
                          refine norm_ (a' := ?_) ?_ ?_
                          rotate_left
                          · show Act.put _ (some 78) _ = _
                            simp only [Act.put, List.setIfInBounds_toArray, List.set_cons_zero, List.set_cons_succ, i64_w, i32_w]
                            rfl
                          refine one_ (i := 13) (N := some 79) #[true, true, true, true, true, true, true, true, true, true, true, true, true, true, false] rfl rfl (one_of HT_.out (by kernel_rfl)) (by decide) (fun K hK => ?_)
                          refine Kd.N_append_rows_step k38 (w0 := w) w.heap.size (by rfl) (.tmp 74) (.tmp 78) 29 38 (.agg #[(.int .i64 0), (.slice none 0 0)]) 32 rfl Tryd.underlying29 info38 rfl (by decide) (by omega) v251 y250 t257 _ _ _ (fun k_ => k_ ≠ gb226) (fun k_ => ((fun k_ => k_ ≠ gb226)) k_ ∧ some k_ ≠ (v251 : Value).ownBlock) rfl rfl ?aO ?aR (fun _ hk => hk) ?aF ?aB ?aS ?aL ?_
                          (case aR => exact (by skip; exact Kd.N_F (Kd.N_mono (ok' := (fun k_ => ((fun k_ => k_ ≠ gb226)) k_ ∧ some k_ ≠ (v251 : Value).ownBlock)) (HO259.out) (fun k_ hk => ⟨hk.2.2.2, hk.2.2.1⟩))))
                          (case aB => exact (by repeat (first | (with_reducible first | exact HB.out | apply below_alloc | apply pw_below_drewN | apply below_drew1 | refine below_set ?_ GE226.out) | exact HB.out)))
                          (case aF => exact (fun k_ hk => Kd.freshB (g := gb226) (o := .cells #[.int .i64 t221, .slice Ao19 t222.length co19] 38 (0, 0)) (by (with_reducible repeat (first | refine blk_drewN ?_ _ | refine blk_drew ?_ | refine blk_alloc ?_ _)); exact BK226.out) k_ hk))
                          (case aO => exact (by (with_reducible repeat (first | apply Kd.N_alloc | apply Kd.N_drewN | apply Kd.N_drew)); exact Kd.N_mono HO252.out (fun _ hk => hk.1)))
                          (case aS => exact (below_size (by repeat (first | (with_reducible first | exact HB.out | apply below_alloc | apply pw_below_drewN | apply below_drew1 | refine below_set ?_ GE226.out) | exact HB.out))))
                          (case aL => have := LMc38.out; omega)
                          intro v261 w56 ho hb hg hat
                          rw [← Ny260.out] at ho
                          have n0_ := Aside0.mk (Kd.V_afterv (ok := (fun k_ => some k_ ≠ (v242 : Value).ownBlock ∧ some k_ ≠ (.slice Ao54 y247.length co54 : Value).ownBlock ∧ some k_ ≠ (.slice Ao57 t257.length co57 : Value).ownBlock ∧ k_ ≠ gb226)) (by (with_reducible repeat (first | apply Kd.V_alloc | apply Kd.V_drewN | apply Kd.V_drew)); exact Kd.V_mono HO_227001.out (fun _ hk => ⟨⟨hk.1.1.1, ⟨hk.1.1.2.1, ⟨hk.2, hk.1.1.2.2⟩⟩⟩, hk.1.2⟩)) hg hat)
                          have n1_ := Aside0.mk (blk_grown (g := gb226) (o := .cells #[.int .i64 t221, .slice Ao19 t222.length co19] 38 (0, 0)) (by (with_reducible repeat (first | refine blk_drewN ?_ _ | refine blk_drew ?_ | refine blk_alloc ?_ _)); exact BK226.out) hg (Kd.N_away HO252.out (fun _ hk => hk.1)))
                          have n2_ := Aside0.mk (Kd.N_afterv (ok := (fun k_ => some k_ ≠ (.slice Ao54 y247.length co54 : Value).ownBlock ∧ some k_ ≠ (.slice Ao57 t257.length co57 : Value).ownBlock ∧ k_ ≠ gb226)) (by (with_reducible repeat (first | apply Kd.N_alloc | apply Kd.N_drewN | apply Kd.N_drew)); exact Kd.N_mono HO243.out (fun _ hk => ⟨⟨hk.1.1.1, ⟨hk.2, hk.1.1.2⟩⟩, hk.1.2⟩)) hg hat)
                          have n3_ := Aside0.mk (Kd.N_afterv (ok := (fun k_ => some k_ ≠ (v242 : Value).ownBlock ∧ some k_ ≠ (.slice Ao57 t257.length co57 : Value).ownBlock ∧ k_ ≠ gb226)) (by (with_reducible repeat (first | apply Kd.N_alloc | apply Kd.N_drewN | apply Kd.N_drew)); exact Kd.N_mono HO249.out (fun _ hk => ⟨⟨hk.1.1.1, ⟨hk.2, hk.1.1.2⟩⟩, hk.1.2⟩)) hg hat)
                          have n4_ := Aside0.mk (Kd.N_afterv (ok := (fun k_ => some k_ ≠ (v242 : Value).ownBlock ∧ some k_ ≠ (.slice Ao54 y247.length co54 : Value).ownBlock ∧ k_ ≠ gb226)) (by (with_reducible repeat (first | apply Kd.N_alloc | apply Kd.N_drewN | apply Kd.N_drew)); exact Kd.N_mono HO259.out (fun _ hk => ⟨⟨hk.1, ⟨hk.2.1, hk.2.2.2⟩⟩, hk.2.2.1⟩)) hg hat)
                          have n5_ := Aside0.mk (hb)
                          have n6_ := Aside0.mk (ho)
                          clear HO_227001; clear BK226; clear HO243; clear HO249; clear HO259; clear HB; clear HO252; have HO_227001 := n0_; have BK226 := n1_; have HO243 := n2_; have HO249 := n3_; have HO259 := n4_; have HB := n5_; have HO262 := n6_; clear n0_ n1_ n2_ n3_ n4_ n5_ n6_; clear ho hb hg hat
                          refine hK.out _ _ ⟨(blk_cell BK226.out 0).trans rfl, (blk_cell BK226.out 1).trans rfl⟩ (fun hHeld => ?_)
                          clear hK K
                          refine norm_ (a' := ?_) ?_ ?_
                          rotate_left
                          · show Act.put _ (some 79) _ = _
                            simp only [Act.put, List.setIfInBounds_toArray, List.set_cons_zero, List.set_cons_succ, i64_w, i32_w]
                            rfl
                          refine pure_ (i := 14) (N := some 15) (v := ?_) (a' := ?_) #[true, true, true, true, true, true, true, true, true, true, true, true, true, true, true] rfl rfl (any_of HT_.out (by kernel_rfl)) (fun _ _ _ h => h) (Or.inl ⟨by rfl, ?_⟩) ?_ ?_
                          rotate_left
                          · intro w'
                            go_simp
                            with_reducible rfl
                          rotate_left
                          · simp only [Act.put, List.setIfInBounds_toArray, List.set_cons_zero, List.set_cons_succ, i64_w, i32_w]
                            rfl
                          refine done_ (done_of HT_.out (by kernel_rfl)) ?_
                          obtain ⟨Ao58, co58, eo58⟩ := Kd.N_slice HO262.out
                          subst eo58
                          go_upto_region 12 with (first | ((with_reducible refine gate_callee (f := 11) rfl ?_); refine goesL_ (some 82) rfl rfl Tryd.func11 (by kernel_rfl) rfl #[.slice Ao58 y260.length co58] rfl (by (try simp only [List.map_toArray, List.map_cons, List.map_nil]); first | done | rfl | (simp only [List.length_drop, List.length_take]; rfl)) ?_; (with_reducible refine (sect_Join.calls kj14 _ _ y260 t263 t266 _ ?side3 ?side1 ?side2 A39.out).mono ?_); (case side1 => repeat (first | exact (Kd.N_reads' HO262.out).2.2 | (with_reducible refine Kd.C_alloc ?_ _) | (with_reducible refine Kd.C_drewN ?_ _) | (with_reducible refine Kd.C_drew ?_))); (case side2 => exact (Kd.N_reads' HO262.out).2.1); (case side3 => first | exact Globs.below HG.out HB.out | exact Globs.below HG.out (by repeat (first | (with_reducible first | exact HB.out | apply below_alloc | apply pw_below_drewN | apply below_drew1 | refine below_set ?_ GE226.out) | exact HB.out)) | (repeat (first | exact HG.out | (with_reducible refine Globs.alloc ?_ _) | (with_reducible refine Globs.drewN ?_ _) | (with_reducible refine Globs.drew ?_)))); rintro e w59 ⟨v264, rfl, ho0, hb⟩; refine ⟨_, rfl, ?_⟩; have n0_ := Aside0.mk (Kd.V_below (by (with_reducible repeat (first | apply Kd.V_alloc | apply Kd.V_drewN | apply Kd.V_drew)); exact HO_227001.out) hb); have n1_ := Aside0.mk (Kd.N_below (by (with_reducible repeat (first | apply Kd.N_alloc | apply Kd.N_drewN | apply Kd.N_drew)); exact HO243.out) hb); have n2_ := Aside0.mk (Kd.N_below (by (with_reducible repeat (first | apply Kd.N_alloc | apply Kd.N_drewN | apply Kd.N_drew)); exact HO249.out) hb); have n3_ := Aside0.mk (Kd.N_below (by (with_reducible repeat (first | apply Kd.N_alloc | apply Kd.N_drewN | apply Kd.N_drew)); exact HO259.out) hb); have n4_ := Aside0.mk (Kd.N_below (by (with_reducible repeat (first | apply Kd.N_alloc | apply Kd.N_drewN | apply Kd.N_drew)); exact HO262.out) hb); have n5_ := Aside0.mk (Kd.V_lower (Kd.V_mono (ok' := fun k_ => some k_ ≠ (v242 : Value).ownBlock ∧ some k_ ≠ (.slice Ao54 y247.length co54 : Value).ownBlock ∧ some k_ ≠ (.slice Ao57 t257.length co57 : Value).ownBlock ∧ some k_ ≠ (.slice Ao58 y260.length co58 : Value).ownBlock ∧ k_ ≠ gb226) ho0 (fun k_ hk_ => ⟨(Kd.fresh' (Kd.N_lt (by (with_reducible repeat (first | apply Kd.N_alloc | apply Kd.N_drewN | apply Kd.N_drew)); exact HO243.out)) k_ hk_), (Kd.fresh' (Kd.N_lt (by (with_reducible repeat (first | apply Kd.N_alloc | apply Kd.N_drewN | apply Kd.N_drew)); exact HO249.out)) k_ hk_), (Kd.fresh' (Kd.N_lt (by (with_reducible repeat (first | apply Kd.N_alloc | apply Kd.N_drewN | apply Kd.N_drew)); exact HO259.out)) k_ hk_), (Kd.fresh' (Kd.N_lt (by (with_reducible repeat (first | apply Kd.N_alloc | apply Kd.N_drewN | apply Kd.N_drew)); exact HO262.out)) k_ hk_), (Kd.freshB (g := gb226) (o := .cells #[.int .i64 t221, .slice Ao19 t222.length co19] 38 (0, 0)) (by (with_reducible repeat (first | refine blk_drewN ?_ _ | refine blk_drew ?_ | refine blk_alloc ?_ _)); exact BK226.out) k_ hk_)⟩)) (below_size (by repeat (first | (with_reducible first | exact HB.out | apply below_alloc | apply pw_below_drewN | apply below_drew1 | refine below_set ?_ GE226.out) | exact HB.out)))); have n6_ := Aside0.mk (blk_below (g := gb226) (o := .cells #[.int .i64 t221, .slice Ao19 t222.length co19] 38 (0, 0)) (by (with_reducible repeat (first | refine blk_drewN ?_ _ | refine blk_drew ?_ | refine blk_alloc ?_ _)); exact BK226.out) hb); have n7_ := Aside0.mk (below_step (by repeat (first | (with_reducible first | exact HB.out | apply below_alloc | apply pw_below_drewN | apply below_drew1 | refine below_set ?_ GE226.out) | exact HB.out)) hb); clear HO_227001; clear HO243; clear HO249; clear HO259; clear HO262; clear BK226; clear HB; have HO_227001 := n0_; have HO243 := n1_; have HO249 := n2_; have HO259 := n3_; have HO262 := n4_; have HO265 := n5_; have BK226 := n6_; have HB := n7_; clear n0_ n1_ n2_ n3_ n4_ n5_ n6_ n7_; (try clear hb); (try clear hb2); (try clear hk); (try clear hi); (try clear ho0); obtain ⟨Ao60, co60, eo60⟩ := Kd.V_slice HO265.out; subst eo60) | ((with_reducible refine gate_callee (f := 13) rfl ?_); refine goesL_ (some 87) rfl rfl Tryd.func13 (by kernel_rfl) rfl #[.slice Ao60 t263.length co60] rfl (by (try simp only [List.map_toArray, List.map_cons, List.map_nil]); first | done | rfl | (simp only [List.length_drop, List.length_take]; rfl)) ?_; (with_reducible refine (sect_Split.calls kj14 _ _ t263 t267 t268 _ ?side3 ?side1 ?side2 A40.out).mono ?_); (case side1 => repeat (first | exact (Kd.V_reads' HO265.out).2.2 | (with_reducible refine Kd.C_alloc ?_ _) | (with_reducible refine Kd.C_drewN ?_ _) | (with_reducible refine Kd.C_drew ?_))); (case side2 => exact (Kd.V_reads' HO265.out).2.1); (case side3 => first | exact Globs.below HG.out HB.out | exact Globs.below HG.out (by repeat (first | (with_reducible first | exact HB.out | apply below_alloc | apply pw_below_drewN | apply below_drew1 | refine below_set ?_ GE226.out) | exact HB.out)) | (repeat (first | exact HG.out | (with_reducible refine Globs.alloc ?_ _) | (with_reducible refine Globs.drewN ?_ _) | (with_reducible refine Globs.drew ?_)))); rintro e w61 ⟨v269, rfl, ho0, hb⟩; refine ⟨_, rfl, ?_⟩; have n0_ := Aside0.mk (Kd.V_elder' (by (with_reducible repeat (first | apply Kd.V_alloc | apply Kd.V_drewN | apply Kd.V_drew)); exact HO_227001.out) (by first | exact Kd.N_base ho0 | exact Kd.S_base ho0 | exact Kd.R_base ho0) hb); have n1_ := Aside0.mk (Kd.N_elder' (by (with_reducible repeat (first | apply Kd.N_alloc | apply Kd.N_drewN | apply Kd.N_drew)); exact HO243.out) (by first | exact Kd.N_base ho0 | exact Kd.S_base ho0 | exact Kd.R_base ho0) hb); have n2_ := Aside0.mk (Kd.N_elder' (by (with_reducible repeat (first | apply Kd.N_alloc | apply Kd.N_drewN | apply Kd.N_drew)); exact HO249.out) (by first | exact Kd.N_base ho0 | exact Kd.S_base ho0 | exact Kd.R_base ho0) hb); have n3_ := Aside0.mk (Kd.N_elder' (by (with_reducible repeat (first | apply Kd.N_alloc | apply Kd.N_drewN | apply Kd.N_drew)); exact HO259.out) (by first | exact Kd.N_base ho0 | exact Kd.S_base ho0 | exact Kd.R_base ho0) hb); have n4_ := Aside0.mk (Kd.N_elder' (by (with_reducible repeat (first | apply Kd.N_alloc | apply Kd.N_drewN | apply Kd.N_drew)); exact HO262.out) (by first | exact Kd.N_base ho0 | exact Kd.S_base ho0 | exact Kd.R_base ho0) hb); have n5_ := Aside0.mk (Kd.V_elder' (by (with_reducible repeat (first | apply Kd.V_alloc | apply Kd.V_drewN | apply Kd.V_drew)); exact HO265.out) (by first | exact Kd.N_base ho0 | exact Kd.S_base ho0 | exact Kd.R_base ho0) hb); have n6_ := Aside0.mk (Kd.N_lower (Kd.N_mono (ok' := fun k_ => some k_ ≠ (v242 : Value).ownBlock ∧ some k_ ≠ (.slice Ao54 y247.length co54 : Value).ownBlock ∧ some k_ ≠ (.slice Ao57 t257.length co57 : Value).ownBlock ∧ some k_ ≠ (.slice Ao58 y260.length co58 : Value).ownBlock ∧ k_ ≠ gb226) (Kd.S_N (Kd.S_bound ho0)) (fun k_ hk_ => ⟨(Kd.fresh' (Kd.N_lt (by (with_reducible repeat (first | apply Kd.N_alloc | apply Kd.N_drewN | apply Kd.N_drew)); exact HO243.out)) k_ hk_.2.1), (Kd.fresh' (Kd.N_lt (by (with_reducible repeat (first | apply Kd.N_alloc | apply Kd.N_drewN | apply Kd.N_drew)); exact HO249.out)) k_ hk_.2.1), (Kd.fresh' (Kd.N_lt (by (with_reducible repeat (first | apply Kd.N_alloc | apply Kd.N_drewN | apply Kd.N_drew)); exact HO259.out)) k_ hk_.2.1), (Kd.fresh' (Kd.N_lt (by (with_reducible repeat (first | apply Kd.N_alloc | apply Kd.N_drewN | apply Kd.N_drew)); exact HO262.out)) k_ hk_.2.1), (Kd.freshB (g := gb226) (o := .cells #[.int .i64 t221, .slice Ao19 t222.length co19] 38 (0, 0)) (by (with_reducible repeat (first | refine blk_drewN ?_ _ | refine blk_drew ?_ | refine blk_alloc ?_ _)); exact BK226.out) k_ hk_.2.1)⟩)) (below_size (by repeat (first | (with_reducible first | exact HB.out | apply below_alloc | apply pw_below_drewN | apply below_drew1 | refine below_set ?_ GE226.out) | exact HB.out)))); have n7_ := Aside0.mk (blk_below (g := gb226) (o := .cells #[.int .i64 t221, .slice Ao19 t222.length co19] 38 (0, 0)) (by (with_reducible repeat (first | refine blk_drewN ?_ _ | refine blk_drew ?_ | refine blk_alloc ?_ _)); exact BK226.out) hb); have n8_ := Aside0.mk (below_step (by repeat (first | (with_reducible first | exact HB.out | apply below_alloc | apply pw_below_drewN | apply below_drew1 | refine below_set ?_ GE226.out) | exact HB.out)) hb); clear HO_227001; clear HO243; clear HO249; clear HO259; clear HO262; clear HO265; clear BK226; clear HB; have HO_227001 := n0_; have HO243 := n1_; have HO249 := n2_; have HO259 := n3_; have HO262 := n4_; have HO265 := n5_; have HO270 := n6_; have BK226 := n7_; have HB := n8_; clear n0_ n1_ n2_ n3_ n4_ n5_ n6_ n7_ n8_; (try clear hb); (try clear hb2); (try clear hk); (try clear hi); (try clear ho0)))
                          (try simp only [Act.put, List.setIfInBounds_toArray, List.set_cons_zero, List.set_cons_succ])
                          go_cut [103] (fun v103 wc => ∃ (kq : Nat) (x103_40 : Bool), v103 = .bool x103_40 ∧ Aside0 (avocetlaw07_SectCustom.j2 kq l0 t219 ji29 t267 x103_40 t221 t222 = some r) ∧ Aside0 (kq ≤ kj14) ∧ Aside0 (Kd.N k38 38 wc w.heap.size (fun k_ => k_ ≠ gb226) v269 t267) ∧ Aside0 (Kd.V (Kd.int .u8) 5 wc w.heap.size (fun k_ => some k_ ≠ (v269 : Value).ownBlock ∧ k_ ≠ gb226) (.slice Ao19 t222.length co19) t222) ∧ Aside0 (wc.heap[gb226]? = some (.cells #[.int .i64 t221, (.slice Ao19 t222.length co19)] 38 (0, 0))) ∧ Aside0 (Below w.heap.size w wc))
                          case first =>
                            have H := HC41.out
                            clear HC41
                            by_cases c62 : t266 = 0
                            · rw [if_pos c62] at H
                              have c62b0 : (t266 == 0) = true := beq_iff_eq.mpr c62
                              have c62b1 : (t266 != 0) = false := bne_eq_false_iff_eq.mpr c62
                              clear c62
                              (first | rw [c62b0] | (simp only [i64_w, i32_w]; rw [c62b0]) | skip)
                              by_cases c63 : t268 = 0
                              · rw [if_pos c63] at H
                                have c63b0 : (t268 == 0) = true := beq_iff_eq.mpr c63
                                have c63b1 : (t268 != 0) = false := bne_eq_false_iff_eq.mpr c63
                                clear c63
                                have H' := Aside0.mk H
                                clear H
                                obtain ⟨Ao64, co64, eo64⟩ := Kd.N_slice HO270.out
                                subst eo64
                                go_wp2
                                go_meet
                                case rel => exact ⟨_, (((t267.length : Int) != (wrap64 ((l0.length : Int) + 1)))), (by first | rfl | (simp; done) | (simp [*]; done)), H', ⟨by have := HJ5.out; have := HJ14.out; first | omega | exact Nat.le_refl _⟩, ⟨by (with_reducible repeat (first | apply Kd.N_alloc | apply Kd.N_drewN | apply Kd.N_drew)); exact Kd.N_mono HO270.out (fun _ hk => hk.2.2.2.2)⟩, ⟨by (with_reducible repeat (first | apply Kd.V_alloc | apply Kd.V_drewN | apply Kd.V_drew)); exact Kd.V_mono HO_227001.out (fun _ hk => ⟨hk.2, hk.1.1.2.2.2⟩)⟩, ⟨by (with_reducible repeat (first | refine blk_drewN ?_ _ | refine blk_drew ?_ | refine blk_alloc ?_ _)); exact BK226.out⟩, ⟨by repeat (first | (with_reducible first | exact HB.out | apply below_alloc | apply pw_below_drewN | apply below_drew1 | refine below_set ?_ GE226.out) | exact HB.out)⟩⟩
                              · rw [if_neg c63] at H
                                have c63b0 : (t268 == 0) = false := beq_eq_false_iff_ne.mpr c63
                                have c63b1 : (t268 != 0) = true := bne_iff_ne.mpr c63
                                exfalso; rw [HRT_.out] at H; revert H; cases kj14 <;> simp [avocetlaw07_SectCustom.j2]
                            · rw [if_neg c62] at H
                              have c62b0 : (t266 == 0) = false := beq_eq_false_iff_ne.mpr c62
                              have c62b1 : (t266 != 0) = true := bne_iff_ne.mpr c62
                              (first | rw [c62b0] | (simp only [i64_w, i32_w]; rw [c62b0]) | skip)
                              exfalso; rw [HRT_.out] at H; revert H; cases kj14 <;> simp [avocetlaw07_SectCustom.j2]
                          case rest =>
                            clear HC41
                            try clear c1
                            try clear c2
                            try clear p2
                            try clear c3
                            try clear c4
                            try clear c6
                            try clear p6
                            try clear c11
                            try clear c12
                            try clear c13
                            try clear c33
                            try clear c34
                            try clear c38
                            try clear c44
                            try clear c62
                            try clear c62b0
                            try clear c62b1
                            try clear c63
                            try clear c63b0
                            try clear c63b1
                            try clear p64
                            obtain ⟨kq, x103_40, rfl, HA, HJ40, HO_18, HO_227001, BK226, HB⟩ := hcut
                            cases kq with
                            | zero => exact absurd HA.out (by simp [avocetlaw07_SectCustom.j2])
                            | succ kj40 =>
                              have H := HA.out
                              clear HA
                              simp only [avocetlaw07_SectCustom.j2] at H
                              by_cases c65 : x103_40 = true
                              · subst c65
                                have H1 : (some false) = some r := by rw [if_pos rfl] at H; exact H
                                clear H
                                have H := H1
                                clear H1
                                exact absurd ((Option.some.inj H).trans HRT_.out) (by decide)
                              · replace c65 := Bool.eq_false_iff.mpr c65
                                subst c65
                                have H1 : ((some (([] : List (S38)) : List (S38))).bind fun y271 => (if 0 ≤ ji29 then (if ji29 ≤ (t267.length : Int) then ((some (t267.take (ji29 : Int).toNat : List (S38))).bind fun y274 => (if y271.length + y274.length < 4398046511104 then ((some (y271 ++ y274 : List (S38))).bind fun y279 => (if 0 ≤ (wrap64 (ji29 + 1)) then (if (wrap64 (ji29 + 1)) ≤ (t267.length : Int) then ((some (t267.drop ((wrap64 (ji29 + 1)) : Int).toNat : List (S38))).bind fun y282 => (if y279.length + y282.length < 4398046511104 then (if t219 = true then ((avocetlaw07_theirs.f kj40 (y279 ++ y282)).bind fun t290 => ((avocetref07_Same.f kj40 t290 l0).bind fun t293 => (if t293 = true then (if ji29 < (t267.length : Int) then (if ((rd_T38 t267 ji29).f0) = 0 then (some ((strOfNums ((rd_T38 t267 ji29).f1)).toList == (strOfNums t222).toList)) else (some false)) else (none)) else (some false)))) else (some false)) else (none))) else (none)) else (none))) else (none))) else (none)) else (none))) = some r := by rw [if_neg (show ¬ (false = true) by decide)] at H; exact H
                                clear H
                                have H := H1
                                clear H1
                                obtain ⟨y271, hy271⟩ : ∃ y_ : List (S38), y_ = (([] : List (S38))) := ⟨_, rfl⟩
                                replace H : (if 0 ≤ ji29 then (if ji29 ≤ (t267.length : Int) then ((some (t267.take (ji29 : Int).toNat : List (S38))).bind fun y274 => (if y271.length + y274.length < 4398046511104 then ((some (y271 ++ y274 : List (S38))).bind fun y279 => (if 0 ≤ (wrap64 (ji29 + 1)) then (if (wrap64 (ji29 + 1)) ≤ (t267.length : Int) then ((some (t267.drop ((wrap64 (ji29 + 1)) : Int).toNat : List (S38))).bind fun y282 => (if y279.length + y282.length < 4398046511104 then (if t219 = true then ((avocetlaw07_theirs.f kj40 (y279 ++ y282)).bind fun t290 => ((avocetref07_Same.f kj40 t290 l0).bind fun t293 => (if t293 = true then (if ji29 < (t267.length : Int) then (if ((rd_T38 t267 ji29).f0) = 0 then (some ((strOfNums ((rd_T38 t267 ji29).f1)).toList == (strOfNums t222).toList)) else (some false)) else (none)) else (some false)))) else (some false)) else (none))) else (none)) else (none))) else (none))) else (none)) else (none)) = some r := by first | (rw [hy271]; with_reducible exact H) | (have H2_ := (Option.bind_some _ _).symm.trans H; rw [hy271]; with_reducible exact H2_) | (have H2_ := (Option.bind_some _ _).symm.trans H; with_reducible exact H2_) | with_reducible exact H | (rw [hy271]; exact H) | exact H
                                have Ny271 := Aside0.mk hy271
                                clear hy271
                                by_cases c66 : 0 ≤ ji29
                                · rw [if_pos c66] at H
                                  have c66b0 := eq_true c66
                                  have c66b1 : decide (0 ≤ ji29) = true := decide_eq_true c66
                                  clear c66
                                  by_cases c67 : ji29 ≤ (t267.length : Int)
                                  · rw [if_pos c67] at H
                                    have c67b0 := eq_true c67
                                    have c67b1 : decide (ji29 ≤ (t267.length : Int)) = true := decide_eq_true c67
                                    clear c67
                                    obtain ⟨y274, hy274⟩ : ∃ y_ : List (S38), y_ = (t267.take (ji29 : Int).toNat) := ⟨_, rfl⟩
                                    replace H : (if y271.length + y274.length < 4398046511104 then ((some (y271 ++ y274 : List (S38))).bind fun y279 => (if 0 ≤ (wrap64 (ji29 + 1)) then (if (wrap64 (ji29 + 1)) ≤ (t267.length : Int) then ((some (t267.drop ((wrap64 (ji29 + 1)) : Int).toNat : List (S38))).bind fun y282 => (if y279.length + y282.length < 4398046511104 then (if t219 = true then ((avocetlaw07_theirs.f kj40 (y279 ++ y282)).bind fun t290 => ((avocetref07_Same.f kj40 t290 l0).bind fun t293 => (if t293 = true then (if ji29 < (t267.length : Int) then (if ((rd_T38 t267 ji29).f0) = 0 then (some ((strOfNums ((rd_T38 t267 ji29).f1)).toList == (strOfNums t222).toList)) else (some false)) else (none)) else (some false)))) else (some false)) else (none))) else (none)) else (none))) else (none)) = some r := by first | (rw [hy274]; with_reducible exact H) | (have H2_ := (Option.bind_some _ _).symm.trans H; rw [hy274]; with_reducible exact H2_) | (have H2_ := (Option.bind_some _ _).symm.trans H; with_reducible exact H2_) | with_reducible exact H | (rw [hy274]; exact H) | exact H
                                    have Ny274 := Aside0.mk hy274
                                    clear hy274
                                    by_cases c68 : y271.length + y274.length < 4398046511104
                                    · rw [if_pos c68] at H
                                      have LMc68 := Aside0.mk c68
                                      clear c68
                                      obtain ⟨y279, hy279⟩ : ∃ y_ : List (S38), y_ = (y271 ++ y274) := ⟨_, rfl⟩
                                      replace H : (if 0 ≤ (wrap64 (ji29 + 1)) then (if (wrap64 (ji29 + 1)) ≤ (t267.length : Int) then ((some (t267.drop ((wrap64 (ji29 + 1)) : Int).toNat : List (S38))).bind fun y282 => (if y279.length + y282.length < 4398046511104 then (if t219 = true then ((avocetlaw07_theirs.f kj40 (y279 ++ y282)).bind fun t290 => ((avocetref07_Same.f kj40 t290 l0).bind fun t293 => (if t293 = true then (if ji29 < (t267.length : Int) then (if ((rd_T38 t267 ji29).f0) = 0 then (some ((strOfNums ((rd_T38 t267 ji29).f1)).toList == (strOfNums t222).toList)) else (some false)) else (none)) else (some false)))) else (some false)) else (none))) else (none)) else (none)) = some r := by first | (rw [hy279]; with_reducible exact H) | (have H2_ := (Option.bind_some _ _).symm.trans H; rw [hy279]; with_reducible exact H2_) | (have H2_ := (Option.bind_some _ _).symm.trans H; with_reducible exact H2_) | with_reducible exact H | (rw [hy279]; exact H) | exact H
                                      have Ny279 := Aside0.mk hy279
                                      clear hy279
                                      obtain ⟨ji69, hji69⟩ : ∃ j_ : Int, (wrap64 (ji29 + 1)) = j_ := ⟨_, rfl⟩
                                      replace H : (if 0 ≤ (ji69) then (if (ji69) ≤ (t267.length : Int) then ((some (t267.drop ((ji69) : Int).toNat : List (S38))).bind fun y282 => (if y279.length + y282.length < 4398046511104 then (if t219 = true then ((avocetlaw07_theirs.f kj40 (y279 ++ y282)).bind fun t290 => ((avocetref07_Same.f kj40 t290 l0).bind fun t293 => (if t293 = true then (if ji29 < (t267.length : Int) then (if ((rd_T38 t267 ji29).f0) = 0 then (some ((strOfNums ((rd_T38 t267 ji29).f1)).toList == (strOfNums t222).toList)) else (some false)) else (none)) else (some false)))) else (some false)) else (none))) else (none)) else (none)) = some r := by first | (rw [hji69] at H; exact H) | (simp only [hji69] at H ⊢; exact H)
                                      have hji69w : (IntKind.i64.wrap (ji29 + 1)) = ji69 := (i64_w _).trans hji69
                                      by_cases c70 : 0 ≤ (ji69)
                                      · rw [if_pos c70] at H
                                        have c70b0 := eq_true c70
                                        have c70b1 : decide (0 ≤ (ji69)) = true := decide_eq_true c70
                                        clear c70
                                        by_cases c71 : (ji69) ≤ (t267.length : Int)
                                        · rw [if_pos c71] at H
                                          have c71b0 := eq_true c71
                                          have c71b1 : decide ((ji69) ≤ (t267.length : Int)) = true := decide_eq_true c71
                                          clear c71
                                          obtain ⟨y282, hy282⟩ : ∃ y_ : List (S38), y_ = (t267.drop ((ji69) : Int).toNat) := ⟨_, rfl⟩
                                          replace H : (if y279.length + y282.length < 4398046511104 then (if t219 = true then ((avocetlaw07_theirs.f kj40 (y279 ++ y282)).bind fun t290 => ((avocetref07_Same.f kj40 t290 l0).bind fun t293 => (if t293 = true then (if ji29 < (t267.length : Int) then (if ((rd_T38 t267 ji29).f0) = 0 then (some ((strOfNums ((rd_T38 t267 ji29).f1)).toList == (strOfNums t222).toList)) else (some false)) else (none)) else (some false)))) else (some false)) else (none)) = some r := by first | (rw [hy282]; with_reducible exact H) | (have H2_ := (Option.bind_some _ _).symm.trans H; rw [hy282]; with_reducible exact H2_) | (have H2_ := (Option.bind_some _ _).symm.trans H; with_reducible exact H2_) | with_reducible exact H | (rw [hy282]; exact H) | exact H
                                          have Ny282 := Aside0.mk hy282
                                          clear hy282
                                          by_cases c72 : y279.length + y282.length < 4398046511104
                                          · rw [if_pos c72] at H
                                            have LMc72 := Aside0.mk c72
                                            clear c72
                                            obtain ⟨y287, hy287⟩ : ∃ y_ : List (S38), y_ = (y279 ++ y282) := ⟨_, rfl⟩
                                            replace H : (if t219 = true then ((avocetlaw07_theirs.f kj40 y287).bind fun t290 => ((avocetref07_Same.f kj40 t290 l0).bind fun t293 => (if t293 = true then (if ji29 < (t267.length : Int) then (if ((rd_T38 t267 ji29).f0) = 0 then (some ((strOfNums ((rd_T38 t267 ji29).f1)).toList == (strOfNums t222).toList)) else (some false)) else (none)) else (some false)))) else (some false)) = some r := by first | (rw [hy287]; with_reducible exact H) | (have H2_ := (Option.bind_some _ _).symm.trans H; rw [hy287]; with_reducible exact H2_) | (have H2_ := (Option.bind_some _ _).symm.trans H; with_reducible exact H2_) | with_reducible exact H | (rw [hy287]; exact H) | exact H
                                            have Ny287 := Aside0.mk hy287
                                            clear hy287
                                            by_cases c73 : t219 = true
                                            · subst c73
                                              have H1 : ((avocetlaw07_theirs.f kj40 y287).bind fun t290 => ((avocetref07_Same.f kj40 t290 l0).bind fun t293 => (if t293 = true then (if ji29 < (t267.length : Int) then (if ((rd_T38 t267 ji29).f0) = 0 then (some ((strOfNums ((rd_T38 t267 ji29).f1)).toList == (strOfNums t222).toList)) else (some false)) else (none)) else (some false)))) = some r := by rw [if_pos rfl] at H; exact H
                                              clear H
                                              have H := H1
                                              clear H1
                                              replace H := Option.bind_eq_some_iff.mp H
                                              obtain ⟨t290, A740, H⟩ := H
                                              replace H : ((avocetref07_Same.f kj40 t290 l0).bind fun t293 => (if t293 = true then (if ji29 < (t267.length : Int) then (if ((rd_T38 t267 ji29).f0) = 0 then (some ((strOfNums ((rd_T38 t267 ji29).f1)).toList == (strOfNums t222).toList)) else (some false)) else (none)) else (some false))) = some r := H
                                              have A74 := Aside0.mk A740
                                              clear A740
                                              replace H := Option.bind_eq_some_iff.mp H
                                              obtain ⟨t293, A750, H⟩ := H
                                              replace H : (if t293 = true then (if ji29 < (t267.length : Int) then (if ((rd_T38 t267 ji29).f0) = 0 then (some ((strOfNums ((rd_T38 t267 ji29).f1)).toList == (strOfNums t222).toList)) else (some false)) else (none)) else (some false)) = some r := H
                                              have A75 := Aside0.mk A750
                                              clear A750
                                              by_cases c76 : t293 = true
                                              · subst c76
                                                have H1 : (if ji29 < (t267.length : Int) then (if ((rd_T38 t267 ji29).f0) = 0 then (some ((strOfNums ((rd_T38 t267 ji29).f1)).toList == (strOfNums t222).toList)) else (some false)) else (none)) = some r := by rw [if_pos rfl] at H; exact H
                                                clear H
                                                have H := H1
                                                clear H1
                                                by_cases c77 : ji29 < (t267.length : Int)
                                                · rw [if_pos c77] at H
                                                  have c77b0 : decide (ji29 < (t267.length : Int)) = true := decide_eq_true c77
                                                  clear c77
                                                  by_cases c78 : ((rd_T38 t267 ji29).f0) = 0
                                                  · rw [if_pos c78] at H
                                                    have c78b0 : (((rd_T38 t267 ji29).f0) == 0) = true := beq_iff_eq.mpr c78
                                                    have c78b1 : (((rd_T38 t267 ji29).f0) != 0) = false := bne_eq_false_iff_eq.mpr c78
                                                    clear c78
                                                    obtain rfl := Option.some.inj H
                                                    try go_wp2
                                                    have n0_ := Aside0.mk (Kd.N_drew HO_18.out)
                                                    have n1_ := Aside0.mk (Kd.V_drew HO_227001.out)
                                                    have n2_ := Aside0.mk (blk_drew BK226.out)
                                                    have n3_ := Aside0.mk (below_drew1 HB.out)
                                                    clear HO_18; clear HO_227001; clear BK226; clear HB; have HO_18 := n0_; have HO_227001 := n1_; have BK226 := n2_; have HB := n3_; clear n0_ n1_ n2_ n3_
                                                    obtain ⟨Ao81, co81, eo81⟩ := Kd.N_slice HO_18.out
                                                    (first | subst eo81 | (injection eo81 with f1_ f2_ f3_; have f4_ := f1_.symm; have f5_ := f3_.symm; clear f1_ f2_ f3_; subst f4_; subst f5_))
                                                    have q80 : (ji29 : Int) ≤ ((t267.length : Int) : Int) := of_decide_eq_true (by first | (with_reducible assumption) | assumption)
                                                    obtain ⟨i080, hi080, _, hsz80, _⟩ := info_parts info38
                                                    have hroom80 : t267.length ≤ co81 := (Kd.N_reads' HO_18.out).2.1
                                                    have hC80 : Kd.F k38 _ _ Ao81 t267.length t267 := (Kd.V_at (base := w.heap.size) (Kd.N_V HO_18.out)).2.2
                                                    have hcut80 := cut_to (P := Tryd.prog) 29 38 .i64 Tryd.underlying29 hi080 Ao81 t267.length co81 ji29 (of_decide_eq_true (by first | (with_reducible assumption) | assumption)) q80 hroom80
                                                    have hr80 := Kd.F_take (m := (ji29 : Int).toNat) hC80 (by omega)
                                                    have hy80 : y274.length = (ji29 : Int).toNat := (by rw [Ny274.out, List.length_take]; omega)
                                                    rw [← Ny274.out] at hr80
                                                    rw [← hy80] at hcut80
                                                    have HO278 := Aside0.mk (show Kd.V k38 38 _ w.heap.size _ (.slice Ao81 y274.length co81) y274 from Kd.V_mk (by omega) hr80)
                                                    have HC278 := Aside0.mk (show y274.length ≤ co81 from by omega)
                                                    clear hr80 hC80 hroom80 hi080 hsz80
                                                    have KY80 := Aside0.mk hy80
                                                    clear hy80
                                                    replace q80 := eq_true q80
                                                    have q82 : ((ji69) : Int) ≤ ((t267.length : Int) : Int) := of_decide_eq_true (by first | (with_reducible assumption) | assumption)
                                                    obtain ⟨i082, hi082, _, hsz82, _⟩ := info_parts info38
                                                    have hroom82 : t267.length ≤ co81 := (Kd.N_reads' HO_18.out).2.1
                                                    have hC82 : Kd.F k38 _ _ Ao81 t267.length t267 := (Kd.V_at (base := w.heap.size) (Kd.N_V HO_18.out)).2.2
                                                    have q082 : (0 : Int) ≤ ((ji69) : Int) := of_decide_eq_true (by first | (with_reducible assumption) | assumption)
                                                    have hcut82 := cut_from (P := Tryd.prog) 29 38 .i64 Tryd.underlying29 hi082 2 hsz82 Ao81 t267.length co81 (ji69) q082 q82
                                                    have hr82 := Kd.F_cut (m := ((ji69) : Int).toNat) (c := co81) hC82 (by omega) hroom82
                                                    obtain ⟨A82, hA82⟩ : ∃ A1, A1 = (if co81 = ((ji69) : Int).toNat then Ao81 else (Ao81 : Option Addr).map (·.add (((ji69) : Int).toNat * 2))) := ⟨_, rfl⟩
                                                    obtain ⟨c82, hc82⟩ : ∃ c1, c1 = co81 - ((ji69) : Int).toNat := ⟨_, rfl⟩
                                                    have hy82 : y282.length = t267.length - ((ji69) : Int).toNat := (by rw [Ny282.out, List.length_drop] <;> omega)
                                                    rw [show (t267).drop ((ji69) : Int).toNat = y282 from Ny282.out.symm] at hr82
                                                    replace hr82 : Kd.F k38 _ _ A82 y282.length y282 := (by rw [hA82]; exact hr82)
                                                    rw [← hy82, ← hA82, ← hc82] at hcut82
                                                    have HO286 := Aside0.mk (show Kd.V k38 38 _ w.heap.size _ (.slice A82 y282.length c82) y282 from Kd.V_mk (by rw [hy82, hc82]; exact Nat.sub_le_sub_right hroom82 _) hr82)
                                                    have HC286 := Aside0.mk (show y282.length ≤ c82 from by rw [hy82, hc82]; exact Nat.sub_le_sub_right hroom82 _)
                                                    clear hr82 hC82 hroom82 hi082 hsz82 hc82
                                                    have KY82 := Aside0.mk hy82
                                                    have KA82 := Aside0.mk hA82
                                                    clear hy82 hA82
                                                    replace q82 := eq_true q82
                                                    refine start_ (n := 11) (S := fun w' => True) (ds := []) #[false, false, false, false, false, false, false, false, false, false, false] (by kernel_rfl) rfl rfl trivial (fun hHeld => ?_); refine with_tabW avocetlaw07_SectCustom.tab14 avocetlaw07_SectCustom.bits14 (fun HT_ HW_ => ?_)
                                                    generalize wc.drew = w79 at HO_18 HO_227001 BK226 HB HO278 HO286 hHeld ⊢
                                                    refine pure_ (i := 1) (N := some 105) (v := ?_) (a' := ?_) #[false, true, false, false, false, false, false, false, false, false, false] rfl rfl (any_of HT_.out (by kernel_rfl)) (fun _ _ _ h => h) (Or.inl ⟨by rfl, ?_⟩) ?_ ?_
                                                    rotate_left
                                                    · intro w'
                                                      go_simp
                                                      with_reducible rfl
                                                    rotate_left
                                                    · simp only [Act.put, List.setIfInBounds_toArray, List.set_cons_zero, List.set_cons_succ, i64_w, i32_w]
                                                      rfl
                                                    refine pure_ (i := 2) (N := some 106) (v := ?_) (a' := ?_) #[false, true, true, false, false, false, false, false, false, false, false] rfl rfl (any_of HT_.out (by kernel_rfl)) (fun _ _ _ h => h) (Or.inl ⟨by rfl, ?_⟩) ?_ ?_
                                                    rotate_left
                                                    · intro w'
                                                      go_simp
                                                      with_reducible rfl
                                                    rotate_left
                                                    · simp only [Act.put, List.setIfInBounds_toArray, List.set_cons_zero, List.set_cons_succ, i64_w, i32_w]
                                                      rfl
                                                    refine pure_ (i := 3) (N := some 107) (v := ?_) (a' := ?_) #[false, true, true, true, false, false, false, false, false, false, false] rfl rfl (any_of HT_.out (by kernel_rfl)) (fun _ _ _ h => h) (Or.inl ⟨by rfl, ?_⟩) ?_ ?_
                                                    rotate_left
                                                    · intro w'
                                                      go_simp
                                                      with_reducible rfl
                                                    rotate_left
                                                    · simp only [Act.put, List.setIfInBounds_toArray, List.set_cons_zero, List.set_cons_succ, i64_w, i32_w]
                                                      rfl
                                                    refine pure_ (i := 5) (N := some 109) (v := ?_) (a' := ?_) #[false, true, true, true, false, true, false, false, false, false, false] rfl rfl (any_of HT_.out (by kernel_rfl)) (fun _ _ _ h => h) (Or.inl ⟨by rfl, ?_⟩) ?_ ?_
                                                    rotate_left
                                                    · intro w'
                                                      go_simp
                                                      with_reducible rfl
                                                    rotate_left
                                                    · simp only [Act.put, List.setIfInBounds_toArray, List.set_cons_zero, List.set_cons_succ, i64_w, i32_w]
                                                      rfl
                                                    refine pure_ (i := 6) (N := some 110) (v := ?_) (a' := ?_) #[false, true, true, true, false, true, true, false, false, false, false] rfl rfl (any_of HT_.out (by kernel_rfl)) (fun _ _ _ h => h) (Or.inl ⟨by rfl, ?_⟩) ?_ ?_
                                                    rotate_left
                                                    · intro w'
                                                      go_simp
                                                      with_reducible rfl
                                                    rotate_left
                                                    · simp only [Act.put, List.setIfInBounds_toArray, List.set_cons_zero, List.set_cons_succ, i64_w, i32_w]
                                                      rfl
                                                    refine pure_ (i := 7) (N := some 111) (v := ?_) (a' := ?_) #[false, true, true, true, false, true, true, true, false, false, false] rfl rfl (any_of HT_.out (by kernel_rfl)) (fun _ _ _ h => h) (Or.inl ⟨by rfl, ?_⟩) ?_ ?_
                                                    rotate_left
                                                    · intro w'
                                                      go_simp
                                                      with_reducible rfl
                                                    rotate_left
                                                    · simp only [Act.put, List.setIfInBounds_toArray, List.set_cons_zero, List.set_cons_succ, i64_w, i32_w]
                                                      rfl
                                                    refine pure_ (i := 8) (N := some 112) (v := ?_) (a' := ?_) #[false, true, true, true, false, true, true, true, true, false, false] rfl rfl (any_of HT_.out (by kernel_rfl)) (fun _ _ _ h => h) (Or.inl ⟨by rfl, ?_⟩) ?_ ?_
                                                    rotate_left
                                                    · intro w'
                                                      go_simp
                                                      with_reducible rfl
                                                    rotate_left
                                                    · simp only [Act.put, List.setIfInBounds_toArray, List.set_cons_zero, List.set_cons_succ, i64_w, i32_w]
                                                      rfl
                                                    refine one_ (i := 0) (N := some 104) #[true, true, true, true, false, true, true, true, true, false, false] rfl rfl (one_of HT_.out (by kernel_rfl)) (by decide) (fun K hK => ?_)
                                                    refine Kd.N_lit_step k38 _ 38 ?hg (N' := 104) ?hd (xs := ([] : List (S38))) (inner := []) (ok := (fun k_ => some k_ ≠ (.slice Ao81 t267.length co81 : Value).ownBlock ∧ k_ ≠ gb226)) (okp := (fun k_ => some k_ ≠ (.slice Ao81 t267.length co81 : Value).ownBlock ∧ k_ ≠ gb226)) ?hr ?hp (fun _ hk => hk) ((show ∀ k_, w79.heap.size ≤ k_ → (fun k_ => some k_ ≠ (.slice Ao81 t267.length co81 : Value).ownBlock ∧ k_ ≠ gb226) k_ from fun k_ hk => ⟨Kd.fresh' (Kd.N_lt (by (with_reducible repeat (first | apply Kd.N_alloc | apply Kd.N_drewN | apply Kd.N_drew)); exact HO_18.out)) k_ hk, Kd.freshB (g := gb226) (o := .cells #[.int .i64 t221, .slice Ao19 t222.length co19] 38 (0, 0)) (by (with_reducible repeat (first | refine blk_drewN ?_ _ | refine blk_drew ?_ | refine blk_alloc ?_ _)); exact BK226.out) k_ hk⟩) _ (Nat.le_refl _)) (Below.refl _ _) (Nat.le_refl _) (by simp) ?_; (case hd => rfl); (case hg => rfl); (case hr => first | (go_simp; done) | (go_simp; rfl) | (go_simp; simp only [u8tail]; done)); (case hp => exact (Reps.none _ _))
                                                    intro v272 w83 ho84 hb hg_ hnew_
                                                    clear hg_ hnew_
                                                    (first | rw [← Ny271.out] at ho84 | (simp only [Int.reduceToNat] at ho84; rw [← Ny271.out] at ho84))
                                                    have n0_ := Aside0.mk (Kd.N_elder' (by (with_reducible repeat (first | apply Kd.N_alloc | apply Kd.N_drewN | apply Kd.N_drew)); exact HO_18.out) (by first | exact Kd.N_base ho84 | exact Kd.S_base ho84 | exact Kd.R_base ho84) hb)
                                                    have n1_ := Aside0.mk (Kd.V_elder' (by (with_reducible repeat (first | apply Kd.V_alloc | apply Kd.V_drewN | apply Kd.V_drew)); exact HO_227001.out) (by first | exact Kd.N_base ho84 | exact Kd.S_base ho84 | exact Kd.R_base ho84) hb)
                                                    have n2_ := Aside0.mk (Kd.V_elder' (by (with_reducible repeat (first | apply Kd.V_alloc | apply Kd.V_drewN | apply Kd.V_drew)); exact HO278.out) (by first | exact Kd.N_base ho84 | exact Kd.S_base ho84 | exact Kd.R_base ho84) hb)
                                                    have n3_ := Aside0.mk (Kd.V_elder' (by (with_reducible repeat (first | apply Kd.V_alloc | apply Kd.V_drewN | apply Kd.V_drew)); exact HO286.out) (by first | exact Kd.N_base ho84 | exact Kd.S_base ho84 | exact Kd.R_base ho84) hb)
                                                    have n4_ := Aside0.mk (Kd.N_lower ho84 (below_size (by repeat (first | (with_reducible first | exact HB.out | apply below_alloc | apply pw_below_drewN | apply below_drew1 | refine below_set ?_ GE226.out) | exact HB.out))))
                                                    have n5_ := Aside0.mk (blk_below (g := gb226) (o := .cells #[.int .i64 t221, .slice Ao19 t222.length co19] 38 (0, 0)) (by (with_reducible repeat (first | refine blk_drewN ?_ _ | refine blk_drew ?_ | refine blk_alloc ?_ _)); exact BK226.out) hb)
                                                    have n6_ := Aside0.mk (below_step (by repeat (first | (with_reducible first | exact HB.out | apply below_alloc | apply pw_below_drewN | apply below_drew1 | refine below_set ?_ GE226.out) | exact HB.out)) hb)
                                                    clear HO_18; clear HO_227001; clear HO278; clear HO286; clear BK226; clear HB; have HO_18 := n0_; have HO_227001 := n1_; have HO278 := n2_; have HO286 := n3_; have HO273 := n4_; have BK226 := n5_; have HB := n6_; clear n0_ n1_ n2_ n3_ n4_ n5_ n6_; clear hb ho84
                                                    refine hK.out _ _ trivial (fun hHeld => ?_)
                                                    clear hK K
                                                    refine norm_ (a' := ?_) ?_ ?_
                                                    rotate_left
                                                    · show Act.put _ (some 104) _ = _
                                                      simp only [Act.put, List.setIfInBounds_toArray, List.set_cons_zero, List.set_cons_succ, i64_w, i32_w]
                                                      rfl
                                                    refine one_ (i := 4) (N := some 108) #[true, true, true, true, true, true, true, true, true, false, false] rfl rfl (one_of HT_.out (by kernel_rfl)) (by decide) (fun K hK => ?_)
                                                    refine Kd.N_append_rows_step k38 (w0 := w) w.heap.size (by rfl) (.tmp 104) (.tmp 107) 29 38 (.agg #[(.int .i64 0), (.slice none 0 0)]) 32 rfl Tryd.underlying29 info38 rfl (by decide) (by omega) v272 y271 y274 _ _ _ (fun k_ => k_ ≠ gb226) (fun k_ => ((fun k_ => k_ ≠ gb226)) k_ ∧ some k_ ≠ (v272 : Value).ownBlock) rfl rfl ?aO ?aR (fun _ hk => hk) ?aF ?aB ?aS ?aL ?_
                                                    (case aR => exact (by skip; exact Kd.V_F (Kd.V_mono (ok' := (fun k_ => ((fun k_ => k_ ≠ gb226)) k_ ∧ some k_ ≠ (v272 : Value).ownBlock)) (HO278.out) (fun k_ hk => ⟨hk.1, hk.2⟩))))
                                                    (case aB => exact (by repeat (first | (with_reducible first | exact HB.out | apply below_alloc | apply pw_below_drewN | apply below_drew1 | refine below_set ?_ GE226.out) | exact HB.out)))
                                                    (case aF => exact (fun k_ hk => Kd.freshB (g := gb226) (o := .cells #[.int .i64 t221, .slice Ao19 t222.length co19] 38 (0, 0)) (by (with_reducible repeat (first | refine blk_drewN ?_ _ | refine blk_drew ?_ | refine blk_alloc ?_ _)); exact BK226.out) k_ hk))
                                                    (case aO => exact (by (with_reducible repeat (first | apply Kd.N_alloc | apply Kd.N_drewN | apply Kd.N_drew)); exact Kd.N_mono HO273.out (fun _ hk => hk.2)))
                                                    (case aS => exact (below_size (by repeat (first | (with_reducible first | exact HB.out | apply below_alloc | apply pw_below_drewN | apply below_drew1 | refine below_set ?_ GE226.out) | exact HB.out))))
                                                    (case aL => have := LMc68.out; omega)
                                                    intro v280 w85 ho hb hg hat
                                                    rw [← Ny279.out] at ho
                                                    have n0_ := Aside0.mk (Kd.N_afterv (ok := (fun k_ => k_ ≠ gb226)) (by (with_reducible repeat (first | apply Kd.N_alloc | apply Kd.N_drewN | apply Kd.N_drew)); exact HO_18.out) hg hat)
                                                    have n1_ := Aside0.mk (Kd.V_afterv (ok := (fun k_ => some k_ ≠ (.slice Ao81 t267.length co81 : Value).ownBlock ∧ k_ ≠ gb226)) (by (with_reducible repeat (first | apply Kd.V_alloc | apply Kd.V_drewN | apply Kd.V_drew)); exact HO_227001.out) hg hat)
                                                    have n2_ := Aside0.mk (blk_grown (g := gb226) (o := .cells #[.int .i64 t221, .slice Ao19 t222.length co19] 38 (0, 0)) (by (with_reducible repeat (first | refine blk_drewN ?_ _ | refine blk_drew ?_ | refine blk_alloc ?_ _)); exact BK226.out) hg (Kd.N_away HO273.out (fun _ hk => hk.2)))
                                                    have n3_ := Aside0.mk (Kd.V_afterv (ok := (fun k_ => k_ ≠ gb226)) (by (with_reducible repeat (first | apply Kd.V_alloc | apply Kd.V_drewN | apply Kd.V_drew)); exact HO278.out) hg hat)
                                                    have n4_ := Aside0.mk (Kd.V_afterv (ok := (fun k_ => k_ ≠ gb226)) (by (with_reducible repeat (first | apply Kd.V_alloc | apply Kd.V_drewN | apply Kd.V_drew)); exact HO286.out) hg hat)
                                                    have n5_ := Aside0.mk (hb)
                                                    have n6_ := Aside0.mk (ho)
                                                    clear HO_18; clear HO_227001; clear BK226; clear HO278; clear HO286; clear HB; clear HO273; have HO_18 := n0_; have HO_227001 := n1_; have BK226 := n2_; have HO278 := n3_; have HO286 := n4_; have HB := n5_; have HO281 := n6_; clear n0_ n1_ n2_ n3_ n4_ n5_ n6_; clear ho hb hg hat
                                                    refine hK.out _ _ trivial (fun hHeld => ?_)
                                                    clear hK K
                                                    refine norm_ (a' := ?_) ?_ ?_
                                                    rotate_left
                                                    · show Act.put _ (some 108) _ = _
                                                      simp only [Act.put, List.setIfInBounds_toArray, List.set_cons_zero, List.set_cons_succ, i64_w, i32_w]
                                                      rfl
                                                    refine one_ (i := 9) (N := some 113) #[true, true, true, true, true, true, true, true, true, true, false] rfl rfl (one_of HT_.out (by kernel_rfl)) (by decide) (fun K hK => ?_)
                                                    refine Kd.N_append_rows_step k38 (w0 := w) w.heap.size (by rfl) (.tmp 108) (.tmp 112) 29 38 (.agg #[(.int .i64 0), (.slice none 0 0)]) 32 rfl Tryd.underlying29 info38 rfl (by decide) (by omega) v280 y279 y282 _ _ _ (fun k_ => k_ ≠ gb226) (fun k_ => ((fun k_ => k_ ≠ gb226)) k_ ∧ some k_ ≠ (v280 : Value).ownBlock) rfl rfl ?aO ?aR (fun _ hk => hk) ?aF ?aB ?aS ?aL ?_
                                                    (case aR => exact (by skip; exact Kd.V_F (Kd.V_mono (ok' := (fun k_ => ((fun k_ => k_ ≠ gb226)) k_ ∧ some k_ ≠ (v280 : Value).ownBlock)) (HO286.out) (fun k_ hk => ⟨hk.1, hk.2⟩))))
                                                    (case aB => exact (by repeat (first | (with_reducible first | exact HB.out | apply below_alloc | apply pw_below_drewN | apply below_drew1 | refine below_set ?_ GE226.out) | exact HB.out)))
                                                    (case aF => exact (fun k_ hk => Kd.freshB (g := gb226) (o := .cells #[.int .i64 t221, .slice Ao19 t222.length co19] 38 (0, 0)) (by (with_reducible repeat (first | refine blk_drewN ?_ _ | refine blk_drew ?_ | refine blk_alloc ?_ _)); exact BK226.out) k_ hk))
                                                    (case aO => exact (by (with_reducible repeat (first | apply Kd.N_alloc | apply Kd.N_drewN | apply Kd.N_drew)); exact HO281.out))
                                                    (case aS => exact (below_size (by repeat (first | (with_reducible first | exact HB.out | apply below_alloc | apply pw_below_drewN | apply below_drew1 | refine below_set ?_ GE226.out) | exact HB.out))))
                                                    (case aL => have := LMc72.out; omega)
                                                    intro v288 w86 ho hb hg hat
                                                    rw [← Ny287.out] at ho
                                                    have n0_ := Aside0.mk (Kd.N_afterv (ok := (fun k_ => k_ ≠ gb226)) (by (with_reducible repeat (first | apply Kd.N_alloc | apply Kd.N_drewN | apply Kd.N_drew)); exact HO_18.out) hg hat)
                                                    have n1_ := Aside0.mk (Kd.V_afterv (ok := (fun k_ => some k_ ≠ (.slice Ao81 t267.length co81 : Value).ownBlock ∧ k_ ≠ gb226)) (by (with_reducible repeat (first | apply Kd.V_alloc | apply Kd.V_drewN | apply Kd.V_drew)); exact HO_227001.out) hg hat)
                                                    have n2_ := Aside0.mk (blk_grown (g := gb226) (o := .cells #[.int .i64 t221, .slice Ao19 t222.length co19] 38 (0, 0)) (by (with_reducible repeat (first | refine blk_drewN ?_ _ | refine blk_drew ?_ | refine blk_alloc ?_ _)); exact BK226.out) hg (Kd.N_away HO281.out (fun _ hk => hk)))
                                                    have n3_ := Aside0.mk (Kd.V_afterv (ok := (fun k_ => k_ ≠ gb226)) (by (with_reducible repeat (first | apply Kd.V_alloc | apply Kd.V_drewN | apply Kd.V_drew)); exact HO278.out) hg hat)
                                                    have n4_ := Aside0.mk (Kd.V_afterv (ok := (fun k_ => k_ ≠ gb226)) (by (with_reducible repeat (first | apply Kd.V_alloc | apply Kd.V_drewN | apply Kd.V_drew)); exact HO286.out) hg hat)
                                                    have n5_ := Aside0.mk (hb)
                                                    have n6_ := Aside0.mk (ho)
                                                    clear HO_18; clear HO_227001; clear BK226; clear HO278; clear HO286; clear HB; clear HO281; have HO_18 := n0_; have HO_227001 := n1_; have BK226 := n2_; have HO278 := n3_; have HO286 := n4_; have HB := n5_; have HO289 := n6_; clear n0_ n1_ n2_ n3_ n4_ n5_ n6_; clear ho hb hg hat
                                                    refine hK.out _ _ trivial (fun hHeld => ?_)
                                                    clear hK K
                                                    refine norm_ (a' := ?_) ?_ ?_
                                                    rotate_left
                                                    · show Act.put _ (some 113) _ = _
                                                      simp only [Act.put, List.setIfInBounds_toArray, List.set_cons_zero, List.set_cons_succ, i64_w, i32_w]
                                                      rfl
                                                    refine pure_ (i := 10) (N := some 20) (v := ?_) (a' := ?_) #[true, true, true, true, true, true, true, true, true, true, true] rfl rfl (any_of HT_.out (by kernel_rfl)) (fun _ _ _ h => h) (Or.inl ⟨by rfl, ?_⟩) ?_ ?_
                                                    rotate_left
                                                    · intro w'
                                                      go_simp
                                                      with_reducible rfl
                                                    rotate_left
                                                    · simp only [Act.put, List.setIfInBounds_toArray, List.set_cons_zero, List.set_cons_succ, i64_w, i32_w]
                                                      rfl
                                                    refine done_ (done_of HT_.out (by kernel_rfl)) ?_
                                                    obtain ⟨Ao87, co87, eo87⟩ := Kd.N_slice HO289.out
                                                    subst eo87
                                                    try go_wp2
                                                    have n0_ := Aside0.mk (Kd.N_drew HO_18.out)
                                                    have n1_ := Aside0.mk (Kd.V_drew HO_227001.out)
                                                    have n2_ := Aside0.mk (Kd.V_drew HO278.out)
                                                    have n3_ := Aside0.mk (Kd.V_drew HO286.out)
                                                    have n4_ := Aside0.mk (Kd.N_drew HO289.out)
                                                    have n5_ := Aside0.mk (blk_drew BK226.out)
                                                    have n6_ := Aside0.mk (below_drew1 HB.out)
                                                    clear HO_18; clear HO_227001; clear HO278; clear HO286; clear HO289; clear BK226; clear HB; have HO_18 := n0_; have HO_227001 := n1_; have HO278 := n2_; have HO286 := n3_; have HO289 := n4_; have BK226 := n5_; have HB := n6_; clear n0_ n1_ n2_ n3_ n4_ n5_ n6_
                                                    have p294 : 0 ≤ (ji29 : Int) := of_decide_eq_true (by first | (with_reducible assumption) | assumption)
                                                    have q294 : ji29 < (t267.length : Int) := of_decide_eq_true (by first | (with_reducible assumption) | assumption)
                                                    obtain ⟨ad294, A294_1, c294_1, e294, hx294_0, hx294_1, hl294_1, hi294_1⟩ := at_T38 (Kd.N_reads' HO_18.out).2.2 ji29 p294 q294
                                                    cases e294
                                                    obtain ⟨ce294, hce294, hMe294, hcc294⟩ := Kd.N_get HO_18.out z38 ji29 p294 (by first | exact q294 | exact of_decide_eq_true (by first | (with_reducible assumption) | assumption) | (have e_ := (Kd.N_reads' HO_18.out).1; omega))
                                                    obtain ⟨ua294_1, uc294_1, rfl, ul294_1, ge294_1⟩ := k38_openF hMe294
                                                    have hv294_1 := hcc294 1 _ rfl
                                                    rw [add_field _ _ 1 (by omega)] at hv294_1
                                                    replace hv294_1 := Option.some.inj (hv294_1.symm.trans hx294_1)
                                                    injection hv294_1 with hva_ hvn_ hvc_
                                                    rw [hva_] at ge294_1
                                                    rw [hvc_] at ul294_1
                                                    have HL294_1 := Aside0.mk (show Kd.V (Kd.int .u8) 5 _ w.heap.size _ _ ((rd_T38 t267 ji29).f1) from Kd.V_mk ul294_1 ge294_1)
                                                    clear hva_ hvn_ hvc_ ge294_1 ul294_1; clear hcc294 hce294
                                                    have HR294_1 := Aside0.mk hi294_1
                                                    have HC294_1 := Aside0.mk hl294_1
                                                    clear hi294_1 hl294_1
                                                    replace p294 := eq_true p294
                                                    replace q294 := eq_true q294
                                                    have p295 : 0 ≤ (ji29 : Int) := of_decide_eq_true (by first | (with_reducible assumption) | assumption)
                                                    have q295 : ji29 < (t267.length : Int) := of_decide_eq_true (by first | (with_reducible assumption) | assumption)
                                                    obtain ⟨ad295, A295_1, c295_1, e295, hx295_0, hx295_1, hl295_1, hi295_1⟩ := at_T38 (Kd.N_reads' HO_18.out).2.2 ji29 p295 q295
                                                    obtain rfl : ad294 = ad295 := (by injection e295)
                                                    obtain ⟨ce295, hce295, hMe295, hcc295⟩ := Kd.N_get HO_18.out z38 ji29 p295 (by first | exact q295 | exact of_decide_eq_true (by first | (with_reducible assumption) | assumption) | (have e_ := (Kd.N_reads' HO_18.out).1; omega))
                                                    obtain ⟨ua295_1, uc295_1, rfl, ul295_1, ge295_1⟩ := k38_openF hMe295
                                                    have hv295_1 := hcc295 1 _ rfl
                                                    rw [add_field _ _ 1 (by omega)] at hv295_1
                                                    replace hv295_1 := Option.some.inj (hv295_1.symm.trans hx295_1)
                                                    injection hv295_1 with hva_ hvn_ hvc_
                                                    rw [hva_] at ge295_1
                                                    rw [hvc_] at ul295_1
                                                    have HL295_1 := Aside0.mk (show Kd.V (Kd.int .u8) 5 _ w.heap.size _ _ ((rd_T38 t267 ji29).f1) from Kd.V_mk ul295_1 ge295_1)
                                                    clear hva_ hvn_ hvc_ ge295_1 ul295_1; clear hcc295 hce295
                                                    have HR295_1 := Aside0.mk hi295_1
                                                    have HC295_1 := Aside0.mk hl295_1
                                                    clear hi295_1 hl295_1
                                                    replace p295 := eq_true p295
                                                    replace q295 := eq_true q295
                                                    have ea_ := Option.some.inj (hx294_1.symm.trans hx295_1)
                                                    injection ea_ with ea_ en_ ec_
                                                    subst ea_
                                                    subst ec_
                                                    clear en_
                                                    refine start_ (n := 28) (S := fun w' => w'.cell? ⟨gb226, 0, none⟩ = some (.int .i64 t221) ∧ w'.cell? ⟨gb226, 1, none⟩ = some (.slice Ao19 t222.length co19) ∧ w'.cell? (ad294.add ((ji29).toNat * 2)) = some (.int .i64 ((rd_T38 t267 ji29).f0)) ∧ w'.cell? ⟨(ad294.add ((ji29).toNat * 2)).block, (ad294.add ((ji29).toNat * 2)).off + 1, none⟩ = some (.slice A294_1 ((rd_T38 t267 ji29).f1).length c294_1) ∧ w'.cell? (ad294.add ((ji29).toNat * 2)) = some (.int .i64 ((rd_T38 t267 ji29).f0)) ∧ w'.cell? ⟨(ad294.add ((ji29).toNat * 2)).block, (ad294.add ((ji29).toNat * 2)).off + 1, none⟩ = some (.slice A294_1 ((rd_T38 t267 ji29).f1).length c294_1) ∧ (convert 25 9 (.slice A294_1 ((rd_T38 t267 ji29).f1).length c294_1)).run Tryd.prog w' = .ok (.string (strOfNums ((rd_T38 t267 ji29).f1))) w' ∧ (convert 25 9 (.slice Ao19 t222.length co19)).run Tryd.prog w' = .ok (.string (strOfNums t222)) w') (ds := []) #[false, false, false, false, false, false, false, false, false, false, false, false, false, false, false, false, false, false, false, false, false, false, false, false, false, false, false, false] (by kernel_rfl) rfl rfl ⟨(blk_cell BK226.out 0).trans rfl, (blk_cell BK226.out 1).trans rfl, hx294_0, hx294_1, hx295_0, hx295_1, Kd.C_string (P := Tryd.prog) (A := A294_1) (c := c294_1) Tryd.underlying25 Tryd.underlying5 Tryd.underlying9 (by first | exact (by repeat (first | (with_reducible exact HR295_1.out) | (with_reducible refine Kd.C_alloc ?_ _) | (with_reducible refine Kd.C_drewN ?_ _) | (with_reducible refine Kd.C_drew ?_) | exact HR295_1.out)) | exact Kd.C_below HR295_1.out HB.out | exact HR295_1.out), (by first | exact V_string (P := Tryd.prog) Tryd.underlying25 Tryd.underlying5 Tryd.underlying9 HO_227001.out | exact V_string (P := Tryd.prog) Tryd.underlying25 Tryd.underlying5 Tryd.underlying9 (Kd.V_drewN HO_227001.out _) | exact V_string (P := Tryd.prog) Tryd.underlying25 Tryd.underlying5 Tryd.underlying9 (Kd.V_drew HO_227001.out))⟩ (fun hHeld => ?_); refine with_tabW avocetlaw07_SectCustom.tab15 avocetlaw07_SectCustom.bits15 (fun HT_ HW_ => ?_)
                                                    generalize w86.drew = w88 at HO_18 HO_227001 HO278 HO286 HO289 BK226 HB HL294_1 HL295_1 HR294_1 HR295_1 hx294_0 hx294_1 hx295_0 hx295_1 hHeld ⊢
                                                    refine pure_ (i := 0) (N := some 114) (v := ?_) (a' := ?_) #[true, false, false, false, false, false, false, false, false, false, false, false, false, false, false, false, false, false, false, false, false, false, false, false, false, false, false, false] rfl rfl (any_of HT_.out (by kernel_rfl)) (fun _ _ _ h => h) (Or.inl ⟨by rfl, ?_⟩) ?_ ?_
                                                    rotate_left
                                                    · intro w'
                                                      go_simp
                                                      with_reducible rfl
                                                    rotate_left
                                                    · simp only [Act.put, List.setIfInBounds_toArray, List.set_cons_zero, List.set_cons_succ, i64_w, i32_w]
                                                      rfl
                                                    refine pure_ (i := 1) (N := some 115) (v := ?_) (a' := ?_) #[true, true, false, false, false, false, false, false, false, false, false, false, false, false, false, false, false, false, false, false, false, false, false, false, false, false, false, false] rfl rfl (any_of HT_.out (by kernel_rfl)) (fun _ _ _ h => h) (Or.inl ⟨by rfl, ?_⟩) ?_ ?_
                                                    rotate_left
                                                    · intro w'
                                                      go_simp
                                                      with_reducible rfl
                                                    rotate_left
                                                    · simp only [Act.put, List.setIfInBounds_toArray, List.set_cons_zero, List.set_cons_succ, i64_w, i32_w]
                                                      rfl
                                                    refine pure_ (i := 2) (N := some 116) (v := ?_) (a' := ?_) #[true, true, true, false, false, false, false, false, false, false, false, false, false, false, false, false, false, false, false, false, false, false, false, false, false, false, false, false] rfl rfl (any_of HT_.out (by kernel_rfl)) (fun _ _ _ h => h) (Or.inl ⟨by rfl, ?_⟩) ?_ ?_
                                                    rotate_left
                                                    · intro w'
                                                      go_simp
                                                      with_reducible rfl
                                                    rotate_left
                                                    · simp only [Act.put, List.setIfInBounds_toArray, List.set_cons_zero, List.set_cons_succ, i64_w, i32_w]
                                                      rfl
                                                    refine pure_ (i := 4) (N := some 118) (v := ?_) (a' := ?_) #[true, true, true, false, true, false, false, false, false, false, false, false, false, false, false, false, false, false, false, false, false, false, false, false, false, false, false, false] rfl rfl (any_of HT_.out (by kernel_rfl)) (fun _ _ _ h => h) (Or.inl ⟨by rfl, ?_⟩) ?_ ?_
                                                    rotate_left
                                                    · intro w'
                                                      go_simp
                                                      with_reducible rfl
                                                    rotate_left
                                                    · simp only [Act.put, List.setIfInBounds_toArray, List.set_cons_zero, List.set_cons_succ, i64_w, i32_w]
                                                      rfl
                                                    refine one_ (i := 3) (N := some 117) #[true, true, true, true, true, false, false, false, false, false, false, false, false, false, false, false, false, false, false, false, false, false, false, false, false, false, false, false] rfl rfl (one_of HT_.out (by kernel_rfl)) (by decide) (fun K hK => ?_)
                                                    refine goes_ Tryd.func15 (by kernel_rfl) rfl #[.slice Ao87 y287.length co87] (by rfl) rfl rfl (by (try simp only [List.map_toArray, List.map_cons, List.map_nil]); first | done | rfl | (simp only [List.length_drop, List.length_take]; rfl)) ?_
                                                    with_reducible refine (avocetlaw07_theirs.calls kj40 (fun k_ => k_ ≠ gb226) _ _ y287 t290 _ ?side1 A74.out).mono ?_
                                                    (case side1 => exact Kd.N_V (HO289.out))
                                                    rintro e w89 ⟨v291, rfl, ho0, hb⟩
                                                    try (have hr_ := Kd.C_below (by repeat (first | (with_reducible exact HR295_1.out) | (with_reducible refine Kd.C_alloc ?_ _) | (with_reducible refine Kd.C_drewN ?_ _) | (with_reducible refine Kd.C_drew ?_) | exact HR295_1.out)) hb; clear HR295_1; have HR295_1 := Aside0.mk hr_; clear hr_)
                                                    have HS2_ := (hb.cell (World.block_lt_of_cell? _ _ (hHeld.2.2.1))).trans (hHeld.2.2.1)
                                                    have HS3_ := (hb.cell (World.block_lt_of_cell? _ _ (hHeld.2.2.2.1))).trans (hHeld.2.2.2.1)
                                                    have HS4_ := (hb.cell (World.block_lt_of_cell? _ _ (hHeld.2.2.2.2.1))).trans (hHeld.2.2.2.2.1)
                                                    have HS5_ := (hb.cell (World.block_lt_of_cell? _ _ (hHeld.2.2.2.2.2.1))).trans (hHeld.2.2.2.2.2.1)
                                                    refine ⟨_, rfl, ?_⟩
                                                    have n0_ := Aside0.mk (Kd.N_elder' (by (with_reducible repeat (first | apply Kd.N_alloc | apply Kd.N_drewN | apply Kd.N_drew)); exact HO_18.out) (by first | exact Kd.N_base ho0 | exact Kd.S_base ho0 | exact Kd.R_base ho0) hb)
                                                    have n1_ := Aside0.mk (Kd.V_elder' (by (with_reducible repeat (first | apply Kd.V_alloc | apply Kd.V_drewN | apply Kd.V_drew)); exact HO_227001.out) (by first | exact Kd.N_base ho0 | exact Kd.S_base ho0 | exact Kd.R_base ho0) hb)
                                                    have n2_ := Aside0.mk (Kd.V_elder' (by (with_reducible repeat (first | apply Kd.V_alloc | apply Kd.V_drewN | apply Kd.V_drew)); exact HO278.out) (by first | exact Kd.N_base ho0 | exact Kd.S_base ho0 | exact Kd.R_base ho0) hb)
                                                    have n3_ := Aside0.mk (Kd.V_elder' (by (with_reducible repeat (first | apply Kd.V_alloc | apply Kd.V_drewN | apply Kd.V_drew)); exact HO286.out) (by first | exact Kd.N_base ho0 | exact Kd.S_base ho0 | exact Kd.R_base ho0) hb)
                                                    have n4_ := Aside0.mk (Kd.N_elder' (by (with_reducible repeat (first | apply Kd.N_alloc | apply Kd.N_drewN | apply Kd.N_drew)); exact HO289.out) (by first | exact Kd.N_base ho0 | exact Kd.S_base ho0 | exact Kd.R_base ho0) hb)
                                                    have n5_ := Aside0.mk (Kd.N_lower (Kd.N_mono (ok' := fun k_ => k_ ≠ gb226) ho0 (fun k_ hk_ => Or.elim hk_ (fun hs_ => hs_) (fun hn_ => (Kd.freshB (g := gb226) (o := .cells #[.int .i64 t221, .slice Ao19 t222.length co19] 38 (0, 0)) (by (with_reducible repeat (first | refine blk_drewN ?_ _ | refine blk_drew ?_ | refine blk_alloc ?_ _)); exact BK226.out) k_ hn_)))) (below_size (by repeat (first | (with_reducible first | exact HB.out | apply below_alloc | apply pw_below_drewN | apply below_drew1 | refine below_set ?_ GE226.out) | exact HB.out))))
                                                    have n6_ := Aside0.mk (blk_below (g := gb226) (o := .cells #[.int .i64 t221, .slice Ao19 t222.length co19] 38 (0, 0)) (by (with_reducible repeat (first | refine blk_drewN ?_ _ | refine blk_drew ?_ | refine blk_alloc ?_ _)); exact BK226.out) hb)
                                                    have n7_ := Aside0.mk (below_step (by repeat (first | (with_reducible first | exact HB.out | apply below_alloc | apply pw_below_drewN | apply below_drew1 | refine below_set ?_ GE226.out) | exact HB.out)) hb)
                                                    clear HO_18; clear HO_227001; clear HO278; clear HO286; clear HO289; clear BK226; clear HB; have HO_18 := n0_; have HO_227001 := n1_; have HO278 := n2_; have HO286 := n3_; have HO289 := n4_; have HO292 := n5_; have BK226 := n6_; have HB := n7_; clear n0_ n1_ n2_ n3_ n4_ n5_ n6_ n7_; (try clear hb); (try clear hb2); (try clear hk); (try clear hi); (try clear ho0)
                                                    obtain ⟨Ao90, co90, eo90⟩ := Kd.N_slice HO292.out
                                                    (first | subst eo90 | (injection eo90 with f1_ f2_ f3_; have f4_ := f1_.symm; have f5_ := f3_.symm; clear f1_ f2_ f3_; subst f4_; subst f5_))
                                                    refine hK.out _ _ ⟨(blk_cell BK226.out 0).trans rfl, (blk_cell BK226.out 1).trans rfl, HS2_, HS3_, HS4_, HS5_, Kd.C_string (P := Tryd.prog) (A := A294_1) (c := c294_1) Tryd.underlying25 Tryd.underlying5 Tryd.underlying9 (by first | exact (by repeat (first | (with_reducible exact HR295_1.out) | (with_reducible refine Kd.C_alloc ?_ _) | (with_reducible refine Kd.C_drewN ?_ _) | (with_reducible refine Kd.C_drew ?_) | exact HR295_1.out)) | exact Kd.C_below HR295_1.out HB.out | exact HR295_1.out), (by first | exact V_string (P := Tryd.prog) Tryd.underlying25 Tryd.underlying5 Tryd.underlying9 HO_227001.out | exact V_string (P := Tryd.prog) Tryd.underlying25 Tryd.underlying5 Tryd.underlying9 (Kd.V_drewN HO_227001.out _) | exact V_string (P := Tryd.prog) Tryd.underlying25 Tryd.underlying5 Tryd.underlying9 (Kd.V_drew HO_227001.out))⟩ (fun hHeld => ?_)
                                                    clear hK K
                                                    refine norm_ (a' := ?_) ?_ ?_
                                                    rotate_left
                                                    · show Act.put _ (some 117) _ = _
                                                      simp only [Act.put, List.setIfInBounds_toArray, List.set_cons_zero, List.set_cons_succ, i64_w, i32_w]
                                                      rfl
                                                    refine one_ (i := 5) (N := some 119) #[true, true, true, true, true, true, false, false, false, false, false, false, false, false, false, false, false, false, false, false, false, false, false, false, false, false, false, false] rfl rfl (one_of HT_.out (by kernel_rfl)) (by decide) (fun K hK => ?_)
                                                    refine goes_ Tryd.func14 (by kernel_rfl) rfl #[.slice Ao90 t290.length co90, .slice A0 l0.length c0] (by rfl) rfl rfl (by (try simp only [List.map_toArray, List.map_cons, List.map_nil]); first | done | rfl | (simp only [List.length_drop, List.length_take]; rfl)) ?_
                                                    with_reducible refine (avocetref07_Same.calls kj40 _ _ t290 _ _ l0 true _ ?side1 ?side2 ?side3 ?side4 A75.out).mono ?_
                                                    (case side1 => repeat (first | exact (Kd.N_reads' HO292.out).2.2 | (with_reducible refine Kd.C_alloc ?_ _) | (with_reducible refine Kd.C_drewN ?_ _) | (with_reducible refine Kd.C_drew ?_)))
                                                    (case side2 => exact (Kd.N_reads' HO292.out).2.1)
                                                    (case side3 => repeat (first | exact (Kd.C_below HR0.out HB.out) | (with_reducible refine Kd.C_alloc ?_ _) | (with_reducible refine Kd.C_drewN ?_ _) | (with_reducible refine Kd.C_drew ?_)))
                                                    (case side4 => exact HC0.out)
                                                    rintro e w' ⟨rfl, ⟨nd, rfl⟩⟩
                                                    refine ⟨_, rfl, ?_⟩
                                                    have hcv91 := Kd.C_string (P := Tryd.prog) (A := A294_1) (c := c294_1) Tryd.underlying25 Tryd.underlying5 Tryd.underlying9 (by repeat (first | (with_reducible exact HR295_1.out) | (with_reducible refine Kd.C_alloc ?_ _) | (with_reducible refine Kd.C_drewN ?_ _) | (with_reducible refine Kd.C_drew ?_) | exact HR295_1.out)); have hcw91 := fun (n_ : Nat) => Kd.C_string (P := Tryd.prog) (A := A294_1) (c := c294_1) Tryd.underlying25 Tryd.underlying5 Tryd.underlying9 (Kd.C_drewN (by repeat (first | (with_reducible exact HR295_1.out) | (with_reducible refine Kd.C_alloc ?_ _) | (with_reducible refine Kd.C_drewN ?_ _) | (with_reducible refine Kd.C_drew ?_) | exact HR295_1.out)) n_)
                                                    have hcv92 := Kd.C_string (P := Tryd.prog) (A := Ao19) (c := co19) Tryd.underlying25 Tryd.underlying5 Tryd.underlying9 (Kd.V_reads' HO_227001.out).2.2; have hcw92 := fun (n_ : Nat) => Kd.C_string (P := Tryd.prog) (A := Ao19) (c := co19) Tryd.underlying25 Tryd.underlying5 Tryd.underlying9 (Kd.C_drewN (Kd.V_reads' HO_227001.out).2.2 n_)
                                                    refine hK.out _ _ ⟨(blk_cell BK226.out 0).trans rfl, (blk_cell BK226.out 1).trans rfl, hHeld.2.2.1, hHeld.2.2.2.1, hHeld.2.2.2.2.1, hHeld.2.2.2.2.2.1, Kd.C_string (P := Tryd.prog) (A := A294_1) (c := c294_1) Tryd.underlying25 Tryd.underlying5 Tryd.underlying9 (by first | exact (by repeat (first | (with_reducible exact HR295_1.out) | (with_reducible refine Kd.C_alloc ?_ _) | (with_reducible refine Kd.C_drewN ?_ _) | (with_reducible refine Kd.C_drew ?_) | exact HR295_1.out)) | exact Kd.C_below HR295_1.out HB.out | exact HR295_1.out), (by first | exact V_string (P := Tryd.prog) Tryd.underlying25 Tryd.underlying5 Tryd.underlying9 HO_227001.out | exact V_string (P := Tryd.prog) Tryd.underlying25 Tryd.underlying5 Tryd.underlying9 (Kd.V_drewN HO_227001.out _) | exact V_string (P := Tryd.prog) Tryd.underlying25 Tryd.underlying5 Tryd.underlying9 (Kd.V_drew HO_227001.out))⟩ (fun hHeld => ?_)
                                                    clear hK K
                                                    refine norm_ (a' := ?_) ?_ ?_
                                                    rotate_left
                                                    · show Act.put _ (some 119) _ = _
                                                      simp only [Act.put, List.setIfInBounds_toArray, List.set_cons_zero, List.set_cons_succ, i64_w, i32_w]
                                                      rfl
                                                    refine pure_ (i := 6) (N := some 120) (v := ?_) (a' := ?_) #[true, true, true, true, true, true, true, false, false, false, false, false, false, false, false, false, false, false, false, false, false, false, false, false, false, false, false, false] rfl rfl (any_of HT_.out (by kernel_rfl)) (fun _ _ _ h => h) (Or.inl ⟨by rfl, ?_⟩) ?_ ?_
                                                    rotate_left
                                                    · intro w'
                                                      go_simp
                                                      with_reducible rfl
                                                    rotate_left
                                                    · simp only [Act.put, List.setIfInBounds_toArray, List.set_cons_zero, List.set_cons_succ, i64_w, i32_w]
                                                      rfl
                                                    refine pure_ (i := 7) (N := some 121) (v := ?_) (a' := ?_) #[true, true, true, true, true, true, true, true, false, false, false, false, false, false, false, false, false, false, false, false, false, false, false, false, false, false, false, false] rfl rfl (any_of HT_.out (by kernel_rfl)) (fun _ _ _ h => h) (Or.inl ⟨by rfl, ?_⟩) ?_ ?_
                                                    rotate_left
                                                    · intro w'
                                                      go_simp
                                                      with_reducible rfl
                                                    rotate_left
                                                    · simp only [Act.put, List.setIfInBounds_toArray, List.set_cons_zero, List.set_cons_succ, i64_w, i32_w]
                                                      rfl
                                                    refine pure_ (i := 8) (N := some 122) (v := ?_) (a' := ?_) #[true, true, true, true, true, true, true, true, true, false, false, false, false, false, false, false, false, false, false, false, false, false, false, false, false, false, false, false] rfl rfl (any_of HT_.out (by kernel_rfl)) (fun _ _ _ h => h) (Or.inl ⟨by rfl, ?_⟩) ?_ ?_
                                                    rotate_left
                                                    · intro w'
                                                      go_simp
                                                      with_reducible rfl
                                                    rotate_left
                                                    · simp only [Act.put, List.setIfInBounds_toArray, List.set_cons_zero, List.set_cons_succ, i64_w, i32_w]
                                                      rfl
                                                    refine pure_ (i := 9) (N := some 123) (v := ?_) (a' := ?_) #[true, true, true, true, true, true, true, true, true, true, false, false, false, false, false, false, false, false, false, false, false, false, false, false, false, false, false, false] rfl rfl (any_of HT_.out (by kernel_rfl)) (fun _ _ _ h => h) (Or.inl ⟨by rfl, ?_⟩) ?_ ?_
                                                    rotate_left
                                                    · intro w'
                                                      go_simp
                                                      with_reducible rfl
                                                    rotate_left
                                                    · simp only [Act.put, List.setIfInBounds_toArray, List.set_cons_zero, List.set_cons_succ, i64_w, i32_w]
                                                      rfl
                                                    refine pure_ (i := 10) (N := some 124) (v := ?_) (a' := ?_) #[true, true, true, true, true, true, true, true, true, true, true, false, false, false, false, false, false, false, false, false, false, false, false, false, false, false, false, false] rfl rfl (any_of HT_.out (by kernel_rfl)) (fun _ _ _ h => h) (Or.inl ⟨by rfl, ?_⟩) ?_ ?_
                                                    rotate_left
                                                    · intro w'
                                                      go_simp
                                                      with_reducible rfl
                                                    rotate_left
                                                    · simp only [Act.put, List.setIfInBounds_toArray, List.set_cons_zero, List.set_cons_succ, i64_w, i32_w]
                                                      rfl
                                                    refine pure_ (i := 11) (N := some 125) (v := ?_) (a' := ?_) #[true, true, true, true, true, true, true, true, true, true, true, true, false, false, false, false, false, false, false, false, false, false, false, false, false, false, false, false] rfl rfl (any_of HT_.out (by kernel_rfl)) (fun _ _ _ h => h) (Or.inl ⟨by rfl, ?_⟩) ?_ ?_
                                                    rotate_left
                                                    · intro w'
                                                      go_simp
                                                      with_reducible rfl
                                                    rotate_left
                                                    · simp only [Act.put, List.setIfInBounds_toArray, List.set_cons_zero, List.set_cons_succ, i64_w, i32_w]
                                                      rfl
                                                    refine take_ (i := 12) (N := some 126) (v := ?_) (a' := ?_) #[true, true, true, true, true, true, true, true, true, true, true, true, true, false, false, false, false, false, false, false, false, false, false, false, false, false, false, false] rfl rfl (take_ofW HT_.out HW_.out (by kernel_rfl)) (fun _ _ _ h => h) (Or.inl ⟨by rfl, ?_⟩) hHeld ?_ ?_
                                                    rotate_left
                                                    · rintro w' ⟨s0, s1, s2, s3, s4, s5, s6, s7⟩
                                                      (try simp only [List.length_take, List.length_drop] at s0 s1 s2 s3 s4 s5 s6 s7)
                                                      go_simp
                                                      with_reducible rfl
                                                    rotate_left
                                                    · simp only [Act.put, List.setIfInBounds_toArray, List.set_cons_zero, List.set_cons_succ, i64_w, i32_w]
                                                      rfl
                                                    refine pure_ (i := 13) (N := some 127) (v := ?_) (a' := ?_) #[true, true, true, true, true, true, true, true, true, true, true, true, true, true, false, false, false, false, false, false, false, false, false, false, false, false, false, false] rfl rfl (any_of HT_.out (by kernel_rfl)) (fun _ _ _ h => h) (Or.inl ⟨by rfl, ?_⟩) ?_ ?_
                                                    rotate_left
                                                    · intro w'
                                                      go_simp
                                                      with_reducible rfl
                                                    rotate_left
                                                    · simp only [Act.put, List.setIfInBounds_toArray, List.set_cons_zero, List.set_cons_succ, i64_w, i32_w]
                                                      rfl
                                                    refine pure_ (i := 14) (N := some 128) (v := ?_) (a' := ?_) #[true, true, true, true, true, true, true, true, true, true, true, true, true, true, true, false, false, false, false, false, false, false, false, false, false, false, false, false] rfl rfl (any_of HT_.out (by kernel_rfl)) (fun _ _ _ h => h) (Or.inl ⟨by rfl, ?_⟩) ?_ ?_
                                                    rotate_left
                                                    · intro w'
                                                      go_simp
                                                      with_reducible rfl
                                                    rotate_left
                                                    · simp only [Act.put, List.setIfInBounds_toArray, List.set_cons_zero, List.set_cons_succ, i64_w, i32_w]
                                                      rfl
                                                    refine pure_ (i := 15) (N := some 129) (v := ?_) (a' := ?_) #[true, true, true, true, true, true, true, true, true, true, true, true, true, true, true, true, false, false, false, false, false, false, false, false, false, false, false, false] rfl rfl (any_of HT_.out (by kernel_rfl)) (fun _ _ _ h => h) (Or.inl ⟨by rfl, ?_⟩) ?_ ?_
                                                    rotate_left
                                                    · intro w'
                                                      go_simp
                                                      with_reducible rfl
                                                    rotate_left
                                                    · simp only [Act.put, List.setIfInBounds_toArray, List.set_cons_zero, List.set_cons_succ, i64_w, i32_w]
                                                      rfl
                                                    refine pure_ (i := 16) (N := some 130) (v := ?_) (a' := ?_) #[true, true, true, true, true, true, true, true, true, true, true, true, true, true, true, true, true, false, false, false, false, false, false, false, false, false, false, false] rfl rfl (any_of HT_.out (by kernel_rfl)) (fun _ _ _ h => h) (Or.inl ⟨by rfl, ?_⟩) ?_ ?_
                                                    rotate_left
                                                    · intro w'
                                                      go_simp
                                                      with_reducible rfl
                                                    rotate_left
                                                    · simp only [Act.put, List.setIfInBounds_toArray, List.set_cons_zero, List.set_cons_succ, i64_w, i32_w]
                                                      rfl
                                                    refine pure_ (i := 17) (N := some 131) (v := ?_) (a' := ?_) #[true, true, true, true, true, true, true, true, true, true, true, true, true, true, true, true, true, true, false, false, false, false, false, false, false, false, false, false] rfl rfl (any_of HT_.out (by kernel_rfl)) (fun _ _ _ h => h) (Or.inl ⟨by rfl, ?_⟩) ?_ ?_
                                                    rotate_left
                                                    · intro w'
                                                      go_simp
                                                      with_reducible rfl
                                                    rotate_left
                                                    · simp only [Act.put, List.setIfInBounds_toArray, List.set_cons_zero, List.set_cons_succ, i64_w, i32_w]
                                                      rfl
                                                    refine pure_ (i := 18) (N := some 132) (v := ?_) (a' := ?_) #[true, true, true, true, true, true, true, true, true, true, true, true, true, true, true, true, true, true, true, false, false, false, false, false, false, false, false, false] rfl rfl (any_of HT_.out (by kernel_rfl)) (fun _ _ _ h => h) (Or.inl ⟨by rfl, ?_⟩) ?_ ?_
                                                    rotate_left
                                                    · intro w'
                                                      go_simp
                                                      with_reducible rfl
                                                    rotate_left
                                                    · simp only [Act.put, List.setIfInBounds_toArray, List.set_cons_zero, List.set_cons_succ, i64_w, i32_w]
                                                      rfl
                                                    refine pure_ (i := 19) (N := some 133) (v := ?_) (a' := ?_) #[true, true, true, true, true, true, true, true, true, true, true, true, true, true, true, true, true, true, true, true, false, false, false, false, false, false, false, false] rfl rfl (any_of HT_.out (by kernel_rfl)) (fun _ _ _ h => h) (Or.inl ⟨by rfl, ?_⟩) ?_ ?_
                                                    rotate_left
                                                    · intro w'
                                                      go_simp
                                                      with_reducible rfl
                                                    rotate_left
                                                    · simp only [Act.put, List.setIfInBounds_toArray, List.set_cons_zero, List.set_cons_succ, i64_w, i32_w]
                                                      rfl
                                                    refine pure_ (i := 22) (N := some 136) (v := ?_) (a' := ?_) #[true, true, true, true, true, true, true, true, true, true, true, true, true, true, true, true, true, true, true, true, false, false, true, false, false, false, false, false] rfl rfl (any_of HT_.out (by kernel_rfl)) (fun _ _ _ h => h) (Or.inl ⟨by rfl, ?_⟩) ?_ ?_
                                                    rotate_left
                                                    · intro w'
                                                      go_simp
                                                      with_reducible rfl
                                                    rotate_left
                                                    · simp only [Act.put, List.setIfInBounds_toArray, List.set_cons_zero, List.set_cons_succ, i64_w, i32_w]
                                                      rfl
                                                    refine take_ (i := 20) (N := some 134) (v := ?_) (a' := ?_) #[true, true, true, true, true, true, true, true, true, true, true, true, true, true, true, true, true, true, true, true, true, false, true, false, false, false, false, false] rfl rfl (take_ofW HT_.out HW_.out (by kernel_rfl)) (fun _ _ _ h => h) (Or.inl ⟨by rfl, ?_⟩) hHeld ?_ ?_
                                                    rotate_left
                                                    · rintro w' ⟨s0, s1, s2, s3, s4, s5, s6, s7⟩
                                                      (try simp only [List.length_take, List.length_drop] at s0 s1 s2 s3 s4 s5 s6 s7)
                                                      go_simp
                                                      with_reducible rfl
                                                    rotate_left
                                                    · simp only [Act.put, List.setIfInBounds_toArray, List.set_cons_zero, List.set_cons_succ, i64_w, i32_w]
                                                      rfl
                                                    refine take_ (i := 21) (N := some 135) (v := ?_) (a' := ?_) #[true, true, true, true, true, true, true, true, true, true, true, true, true, true, true, true, true, true, true, true, true, true, true, false, false, false, false, false] rfl rfl (take_ofW HT_.out HW_.out (by kernel_rfl)) (fun _ _ _ h => h) (Or.inl ⟨by rfl, ?_⟩) hHeld ?_ ?_
                                                    rotate_left
                                                    · rintro w' ⟨s0, s1, s2, s3, s4, s5, s6, s7⟩
                                                      (try simp only [List.length_take, List.length_drop] at s0 s1 s2 s3 s4 s5 s6 s7)
                                                      go_simp
                                                      with_reducible rfl
                                                    rotate_left
                                                    · simp only [Act.put, List.setIfInBounds_toArray, List.set_cons_zero, List.set_cons_succ, i64_w, i32_w]
                                                      rfl
                                                    refine take_ (i := 23) (N := some 137) (v := ?_) (a' := ?_) #[true, true, true, true, true, true, true, true, true, true, true, true, true, true, true, true, true, true, true, true, true, true, true, true, false, false, false, false] rfl rfl (take_ofW HT_.out HW_.out (by kernel_rfl)) (fun _ _ _ h => h) (Or.inl ⟨by rfl, ?_⟩) hHeld ?_ ?_
                                                    rotate_left
                                                    · rintro w' ⟨s0, s1, s2, s3, s4, s5, s6, s7⟩
                                                      (try simp only [List.length_take, List.length_drop] at s0 s1 s2 s3 s4 s5 s6 s7)
                                                      go_simp
                                                      with_reducible rfl
                                                    rotate_left
                                                    · simp only [Act.put, List.setIfInBounds_toArray, List.set_cons_zero, List.set_cons_succ, i64_w, i32_w]
                                                      rfl
                                                    refine take_ (i := 24) (N := some 138) (v := ?_) (a' := ?_) #[true, true, true, true, true, true, true, true, true, true, true, true, true, true, true, true, true, true, true, true, true, true, true, true, true, false, false, false] rfl rfl (take_ofW HT_.out HW_.out (by kernel_rfl)) (fun _ _ _ h => h) (Or.inl ⟨by rfl, ?_⟩) hHeld ?_ ?_
                                                    rotate_left
                                                    · rintro w' ⟨s0, s1, s2, s3, s4, s5, s6, s7⟩
                                                      (try simp only [List.length_take, List.length_drop] at s0 s1 s2 s3 s4 s5 s6 s7)
                                                      go_simp
                                                      with_reducible rfl
                                                    rotate_left
                                                    · simp only [Act.put, List.setIfInBounds_toArray, List.set_cons_zero, List.set_cons_succ, i64_w, i32_w]
                                                      rfl
                                                    refine pure_ (i := 25) (N := some 139) (v := ?_) (a' := ?_) #[true, true, true, true, true, true, true, true, true, true, true, true, true, true, true, true, true, true, true, true, true, true, true, true, true, true, false, false] rfl rfl (any_of HT_.out (by kernel_rfl)) (fun _ _ _ h => h) (Or.inl ⟨by rfl, ?_⟩) ?_ ?_
                                                    rotate_left
                                                    · intro w'
                                                      go_simp
                                                      with_reducible rfl
                                                    rotate_left
                                                    · simp only [Act.put, List.setIfInBounds_toArray, List.set_cons_zero, List.set_cons_succ, i64_w, i32_w]
                                                      rfl
                                                    refine pure_ (i := 26) (N := some 140) (v := ?_) (a' := ?_) #[true, true, true, true, true, true, true, true, true, true, true, true, true, true, true, true, true, true, true, true, true, true, true, true, true, true, true, false] rfl rfl (any_of HT_.out (by kernel_rfl)) (fun _ _ _ h => h) (Or.inl ⟨by rfl, ?_⟩) ?_ ?_
                                                    rotate_left
                                                    · intro w'
                                                      go_simp
                                                      with_reducible rfl
                                                    rotate_left
                                                    · simp only [Act.put, List.setIfInBounds_toArray, List.set_cons_zero, List.set_cons_succ, i64_w, i32_w]
                                                      rfl
                                                    refine pure_ (i := 27) (N := some 8) (v := ?_) (a' := ?_) #[true, true, true, true, true, true, true, true, true, true, true, true, true, true, true, true, true, true, true, true, true, true, true, true, true, true, true, true] rfl rfl (any_of HT_.out (by kernel_rfl)) (fun _ _ _ h => h) (Or.inl ⟨by rfl, ?_⟩) ?_ ?_
                                                    rotate_left
                                                    · intro w'
                                                      go_simp
                                                      with_reducible rfl
                                                    rotate_left
                                                    · simp only [Act.put, List.setIfInBounds_toArray, List.set_cons_zero, List.set_cons_succ, i64_w, i32_w]
                                                      rfl
                                                    refine done_ (done_of HT_.out (by kernel_rfl)) ?_
                                                    try go_wp2
                                                    go_ret
                                                    exact ⟨by first | rfl | (simp [errW_none, errW_some] <;> rfl) | (simp only [← hji29, ← hji69]; first | rfl | (simp [errW_none, errW_some] <;> rfl)) | (simp [*, errW_none, errW_some] <;> rfl), by repeat (first | (with_reducible first | exact HB.out | apply below_alloc | apply pw_below_drewN | apply below_drew1 | refine below_set ?_ GE226.out) | exact HB.out)⟩
                                                  · rw [if_neg c78] at H
                                                    have c78b0 : (((rd_T38 t267 ji29).f0) == 0) = false := beq_eq_false_iff_ne.mpr c78
                                                    have c78b1 : (((rd_T38 t267 ji29).f0) != 0) = true := bne_iff_ne.mpr c78
                                                    exact absurd ((Option.some.inj H).trans HRT_.out) (by decide)
                                                · rw [if_neg c77] at H
                                                  exact absurd H (by simp)
                                              · replace c76 := Bool.eq_false_iff.mpr c76
                                                subst c76
                                                have H1 : (some false) = some r := by rw [if_neg (show ¬ (false = true) by decide)] at H; exact H
                                                clear H
                                                have H := H1
                                                clear H1
                                                exact absurd ((Option.some.inj H).trans HRT_.out) (by decide)
                                            · replace c73 := Bool.eq_false_iff.mpr c73
                                              subst c73
                                              have H1 : (some false) = some r := by rw [if_neg (show ¬ (false = true) by decide)] at H; exact H
                                              clear H
                                              have H := H1
                                              clear H1
                                              exact absurd ((Option.some.inj H).trans HRT_.out) (by decide)
                                          · rw [if_neg c72] at H
                                            exact absurd H (by simp)
                                        · rw [if_neg c71] at H
                                          exact absurd H (by simp)
                                      · rw [if_neg c70] at H
                                        exact absurd H (by simp)
                                    · rw [if_neg c68] at H
                                      exact absurd H (by simp)
                                  · rw [if_neg c67] at H
                                    exact absurd H (by simp)
                                · rw [if_neg c66] at H
                                  exact absurd H (by simp)
                        · rw [if_neg c38] at H
                          exact absurd H (by simp)
                      · rw [if_neg c34] at H
                        exact absurd H (by simp)
                    · rw [if_neg c33] at H
                      exact absurd H (by simp)
                  · rw [if_neg c31] at H
                    exact absurd H (by simp)
                · rw [if_neg c30] at H
                  exact absurd H (by simp)

end Go.Proofs.YtoeknjmdlmhajaaDoor.G
