-- Made by gprint.py (mine) over the kit's print.py, out of the translation; parts of it typed by hand.
import Derived.Test.YtiohdianmddfkaaG0
import Derived.Test.YtiohdianmddfkaaG1
import Derived.Test.YtiohdianmddfkaaG2
import Derived.Test.YtiohdianmddfkaaG3
namespace Go.Proofs.Ytiohdianmddfkaa.G
open Go.RowKit Go.Proofs.YtiohdianmddfkaaW.PrintWords Go.Proofs.YtiohdianmddfkaaW.PrintLast Go.Proofs.YtiohdianmddfkaaW.PrintMore
attribute [local go_sem] max2_int min2_int max_two min_two max_three min_three max_four min_four   -- for this text's walks alone
set_option linter.unusedVariables false
set_option linter.unusedSimpArgs false

/-! ### avocetlaw01_LebBack: function 9 -/
mutual
def avocetlaw01_LebBack.j0 : Nat → Int → Int → Bool → Int → List Int → List Int → Int → Int → Int → Int → Int → Int → Bool → Option (Bool)
  | 0, _, _, _, _, _, _, _, _, _, _, _, _, _ => none
  | k + 1, x0, x1, x9, x10, x11, x12, x13, x14, x15, x16, x17, x18, x19 => if x10 = 64 then (avocetlaw01_LebBack.j1 k x0 x1 x9 x11 x12 x13 x14 x15 x16 x17 x18 x19 true) else (if 0 ≤ (IntKind.u64.wrap (wrap64 (x10 - 1))) then (if x1 ≥ (shl .i64 (-1) (IntKind.u64.wrap (wrap64 (x10 - 1)))) then (avocetlaw01_LebBack.j1 k x0 x1 x9 x11 x12 x13 x14 x15 x16 x17 x18 x19 (decide (x1 < (shl .i64 1 (IntKind.u64.wrap (wrap64 (x10 - 1))))))) else (avocetlaw01_LebBack.j1 k x0 x1 x9 x11 x12 x13 x14 x15 x16 x17 x18 x19 false)) else (none))
def avocetlaw01_LebBack.j1 : Nat → Int → Int → Bool → List Int → List Int → Int → Int → Int → Int → Int → Int → Bool → Bool → Option (Bool)
  | 0, _, _, _, _, _, _, _, _, _, _, _, _, _ => none
  | k + 1, x0, x1, x9, x11, x12, x13, x14, x15, x16, x17, x18, x19, x20 => if ((x15 == 0) != x19) = true then (avocetlaw01_LebBack.j2 k x0 x1 x9 x11 x12 true) else (if x19 = true then (if x13 = x0 then (if x14 = (x11.length : Int) then (if ((x18 == 0) != x20) = true then (avocetlaw01_LebBack.j2 k x0 x1 x9 x11 x12 true) else (if x20 = true then (if x16 = x1 then (avocetlaw01_LebBack.j2 k x0 x1 x9 x11 x12 (x17 != (x12.length : Int))) else (avocetlaw01_LebBack.j2 k x0 x1 x9 x11 x12 true)) else (avocetlaw01_LebBack.j2 k x0 x1 x9 x11 x12 false))) else (avocetlaw01_LebBack.j2 k x0 x1 x9 x11 x12 true)) else (avocetlaw01_LebBack.j2 k x0 x1 x9 x11 x12 true)) else (if ((x18 == 0) != x20) = true then (avocetlaw01_LebBack.j2 k x0 x1 x9 x11 x12 true) else (if x20 = true then (if x16 = x1 then (avocetlaw01_LebBack.j2 k x0 x1 x9 x11 x12 (x17 != (x12.length : Int))) else (avocetlaw01_LebBack.j2 k x0 x1 x9 x11 x12 true)) else (avocetlaw01_LebBack.j2 k x0 x1 x9 x11 x12 false))))
def avocetlaw01_LebBack.j2 : Nat → Int → Int → Bool → List Int → List Int → Bool → Option (Bool)
  | 0, _, _, _, _, _, _ => none
  | k + 1, x0, x1, x9, x11, x12, x125 => if x125 = true then (some false) else (if 0 ≤ (mx 0 (wrap64 ((x11.length : Int) - 1))) then (if (mx 0 (wrap64 ((x11.length : Int) - 1))) ≤ (x11.length : Int) then ((leb_ReadU.f (x11.take ((mx 0 (wrap64 ((x11.length : Int) - 1))) : Int).toNat) 0 64).bind fun bt315 => (if 0 ≤ (mx 0 (wrap64 ((x12.length : Int) - 1))) then (if (mx 0 (wrap64 ((x12.length : Int) - 1))) ≤ (x12.length : Int) then ((leb_ReadS.f k (x12.take ((mx 0 (wrap64 ((x12.length : Int) - 1))) : Int).toNat) 0 64).bind fun bt322 => (if x9 = true then (if bt315.2.2 = 2 then (if bt322.2.2 = 2 then ((leb_LenU.f x0).bind fun t325 => (if (x11.length : Int) = t325 then ((leb_LenS.f x1).bind fun t326 => (some ((x12.length : Int) == t326))) else (some false))) else (some false)) else (some false)) else (some false))) else (none)) else (none))) else (none)) else (none))
end
def avocetlaw01_LebBack.f (k : Nat) (a0 : Int) (a1 : Int) (a2 : Int) (l3 : List Int) : Option (Bool) := (avocetlaw01_awake.f k).bind fun t280 => (if (l3.length : Int) > 100 then (some t280) else ((leb_U.f k ([] : List Int) a0).bind fun t281 => ((leb_S.f k ([] : List Int) a1).bind fun t284 => ((some (([] : List Int) : List Int)).bind fun y287 => (if y287.length + t281.length < 140737488355328 then ((some (y287 ++ t281 : List Int)).bind fun y290 => (if y290.length + l3.length < 140737488355328 then ((leb_ReadU.f (y290 ++ l3) 0 (wrap64 (1 + (Go.bits .and .i64 a2 63)))).bind fun bt296 => ((some (([] : List Int) : List Int)).bind fun y299 => (if y299.length + t284.length < 140737488355328 then ((some (y299 ++ t284 : List Int)).bind fun y302 => (if y302.length + l3.length < 140737488355328 then ((leb_ReadS.f k (y302 ++ l3) 0 (wrap64 (1 + (Go.bits .and .i64 a2 63)))).bind fun bt308 => (if (wrap64 (1 + (Go.bits .and .i64 a2 63))) = 64 then (avocetlaw01_LebBack.j0 k a0 a1 t280 (wrap64 (1 + (Go.bits .and .i64 a2 63))) t281 t284 bt296.1 bt296.2.1 bt296.2.2 bt308.1 bt308.2.1 bt308.2.2 true) else (if 0 ≤ (IntKind.u64.wrap (wrap64 (1 + (Go.bits .and .i64 a2 63)))) then (avocetlaw01_LebBack.j0 k a0 a1 t280 (wrap64 (1 + (Go.bits .and .i64 a2 63))) t281 t284 bt296.1 bt296.2.1 bt296.2.2 bt308.1 bt308.2.1 bt308.2.2 (decide (a0 < (shl .u64 1 (IntKind.u64.wrap (wrap64 (1 + (Go.bits .and .i64 a2 63)))))))) else (none)))) else (none))) else (none)))) else (none))) else (none))))))
theorem avocetlaw01_LebBack.mono_l : ∀ k, (∀ y0 y1 y2 y3 y4 y5 y6 y7 y8 y9 y10 y11 y12, LeO (avocetlaw01_LebBack.j0 k y0 y1 y2 y3 y4 y5 y6 y7 y8 y9 y10 y11 y12) (avocetlaw01_LebBack.j0 (k + 1) y0 y1 y2 y3 y4 y5 y6 y7 y8 y9 y10 y11 y12)) ∧ (∀ y0 y1 y2 y3 y4 y5 y6 y7 y8 y9 y10 y11 y12, LeO (avocetlaw01_LebBack.j1 k y0 y1 y2 y3 y4 y5 y6 y7 y8 y9 y10 y11 y12) (avocetlaw01_LebBack.j1 (k + 1) y0 y1 y2 y3 y4 y5 y6 y7 y8 y9 y10 y11 y12)) ∧ (∀ y0 y1 y2 y3 y4 y5, LeO (avocetlaw01_LebBack.j2 k y0 y1 y2 y3 y4 y5) (avocetlaw01_LebBack.j2 (k + 1) y0 y1 y2 y3 y4 y5))
  | 0 => ⟨fun _ _ _ _ _ _ _ _ _ _ _ _ _ r h => by simp [avocetlaw01_LebBack.j0] at h, fun _ _ _ _ _ _ _ _ _ _ _ _ _ r h => by simp [avocetlaw01_LebBack.j1] at h, fun _ _ _ _ _ _ r h => by simp [avocetlaw01_LebBack.j2] at h⟩
  | k + 1 => by
    obtain ⟨ih0, ih1, ih2⟩ := avocetlaw01_LebBack.mono_l k
    refine ⟨?_, ?_, ?_⟩
    · intro y0 y1 y2 y3 y4 y5 y6 y7 y8 y9 y10 y11 y12
      unfold avocetlaw01_LebBack.j0
      repeat' first
      | (with_reducible exact ih0 _ _ _ _ _ _ _ _ _ _ _ _ _)
      | (with_reducible exact ih1 _ _ _ _ _ _ _ _ _ _ _ _ _)
      | (with_reducible exact ih2 _ _ _ _ _ _)
      | (with_reducible exact avocetlaw01_awake.mono _)
      | (with_reducible exact leb_ReadS.mono _ _ _ _)
      | (with_reducible exact leb_S.mono _ _ _)
      | (with_reducible exact leb_U.mono _ _ _)
      | (with_reducible exact LeO.refl _)
      | (with_reducible exact LeO.none _)
      | (with_reducible refine LeO.ite ?_ ?_)
      | (with_reducible refine LeO.bind ?_ (fun _ => ?_))
      | exact ih0 _ _ _ _ _ _ _ _ _ _ _ _ _
      | exact ih1 _ _ _ _ _ _ _ _ _ _ _ _ _
      | exact ih2 _ _ _ _ _ _
      | exact avocetlaw01_awake.mono _
      | exact leb_ReadS.mono _ _ _ _
      | exact leb_S.mono _ _ _
      | exact leb_U.mono _ _ _
      | exact LeO.none _
      | refine LeO.ite ?_ ?_
      | refine LeO.bind ?_ (fun _ => ?_)
    · intro y0 y1 y2 y3 y4 y5 y6 y7 y8 y9 y10 y11 y12
      unfold avocetlaw01_LebBack.j1
      repeat' first
      | (with_reducible exact ih0 _ _ _ _ _ _ _ _ _ _ _ _ _)
      | (with_reducible exact ih1 _ _ _ _ _ _ _ _ _ _ _ _ _)
      | (with_reducible exact ih2 _ _ _ _ _ _)
      | (with_reducible exact avocetlaw01_awake.mono _)
      | (with_reducible exact leb_ReadS.mono _ _ _ _)
      | (with_reducible exact leb_S.mono _ _ _)
      | (with_reducible exact leb_U.mono _ _ _)
      | (with_reducible exact LeO.refl _)
      | (with_reducible exact LeO.none _)
      | (with_reducible refine LeO.ite ?_ ?_)
      | (with_reducible refine LeO.bind ?_ (fun _ => ?_))
      | exact ih0 _ _ _ _ _ _ _ _ _ _ _ _ _
      | exact ih1 _ _ _ _ _ _ _ _ _ _ _ _ _
      | exact ih2 _ _ _ _ _ _
      | exact avocetlaw01_awake.mono _
      | exact leb_ReadS.mono _ _ _ _
      | exact leb_S.mono _ _ _
      | exact leb_U.mono _ _ _
      | exact LeO.none _
      | refine LeO.ite ?_ ?_
      | refine LeO.bind ?_ (fun _ => ?_)
    · intro y0 y1 y2 y3 y4 y5
      unfold avocetlaw01_LebBack.j2
      repeat' first
      | (with_reducible exact ih0 _ _ _ _ _ _ _ _ _ _ _ _ _)
      | (with_reducible exact ih1 _ _ _ _ _ _ _ _ _ _ _ _ _)
      | (with_reducible exact ih2 _ _ _ _ _ _)
      | (with_reducible exact avocetlaw01_awake.mono _)
      | (with_reducible exact leb_ReadS.mono _ _ _ _)
      | (with_reducible exact leb_S.mono _ _ _)
      | (with_reducible exact leb_U.mono _ _ _)
      | (with_reducible exact LeO.refl _)
      | (with_reducible exact LeO.none _)
      | (with_reducible refine LeO.ite ?_ ?_)
      | (with_reducible refine LeO.bind ?_ (fun _ => ?_))
      | exact ih0 _ _ _ _ _ _ _ _ _ _ _ _ _
      | exact ih1 _ _ _ _ _ _ _ _ _ _ _ _ _
      | exact ih2 _ _ _ _ _ _
      | exact avocetlaw01_awake.mono _
      | exact leb_ReadS.mono _ _ _ _
      | exact leb_S.mono _ _ _
      | exact leb_U.mono _ _ _
      | exact LeO.none _
      | refine LeO.ite ?_ ?_
      | refine LeO.bind ?_ (fun _ => ?_)
theorem avocetlaw01_LebBack.mono : ∀ a0 a1 a2 a3 k, LeO (avocetlaw01_LebBack.f k a0 a1 a2 a3) (avocetlaw01_LebBack.f (k + 1) a0 a1 a2 a3) := by
  intro a0 a1 a2 a3 k
  obtain ⟨ih0, ih1, ih2⟩ := avocetlaw01_LebBack.mono_l k
  unfold avocetlaw01_LebBack.f
  repeat' first
      | (with_reducible exact ih0 _ _ _ _ _ _ _ _ _ _ _ _ _)
      | (with_reducible exact ih1 _ _ _ _ _ _ _ _ _ _ _ _ _)
      | (with_reducible exact ih2 _ _ _ _ _ _)
      | (with_reducible exact avocetlaw01_awake.mono _)
      | (with_reducible exact leb_ReadS.mono _ _ _ _)
      | (with_reducible exact leb_S.mono _ _ _)
      | (with_reducible exact leb_U.mono _ _ _)
      | (with_reducible exact LeO.refl _)
      | (with_reducible exact LeO.none _)
      | (with_reducible refine LeO.ite ?_ ?_)
      | (with_reducible refine LeO.bind ?_ (fun _ => ?_))
      | exact ih0 _ _ _ _ _ _ _ _ _ _ _ _ _
      | exact ih1 _ _ _ _ _ _ _ _ _ _ _ _ _
      | exact ih2 _ _ _ _ _ _
      | exact avocetlaw01_awake.mono _
      | exact leb_ReadS.mono _ _ _ _
      | exact leb_S.mono _ _ _
      | exact leb_U.mono _ _ _
      | exact LeO.none _
      | refine LeO.ite ?_ ?_
      | refine LeO.bind ?_ (fun _ => ?_)
set_option maxHeartbeats 8000000 in
set_option maxRecDepth 100000 in
theorem avocetlaw01_LebBack.calls (k : Nat) (a0 : Int) (a1 : Int) (a2 : Int) (A3 : Option Addr) (c3 : Nat) (l3 : List Int) (r : Bool) (w : World) (hr3 : Kd.C (Kd.int .u8) w A3 l3.length l3) (hc3 : l3.length ≤ c3) (h : avocetlaw01_LebBack.f k a0 a1 a2 l3 = some r) :
    Calls Try.prog 9 #[.int .u64 a0, .int .i64 a1, .int .i64 a2, .slice A3 l3.length c3] w fun e w' => e = .returned (.bool r) ∧ Below w.heap.size w w' := by
  have HR3 := Aside0.mk hr3
  have HC3 := Aside0.mk hc3
  clear hr3 hc3
  have HB := Aside0.mk (Below.refl w.heap.size w)
  have H : ((avocetlaw01_awake.f k).bind fun t280 => (if (l3.length : Int) > 100 then (some t280) else ((leb_U.f k ([] : List Int) a0).bind fun t281 => ((leb_S.f k ([] : List Int) a1).bind fun t284 => ((some (([] : List Int) : List Int)).bind fun y287 => (if y287.length + t281.length < 140737488355328 then ((some (y287 ++ t281 : List Int)).bind fun y290 => (if y290.length + l3.length < 140737488355328 then ((leb_ReadU.f (y290 ++ l3) 0 (wrap64 (1 + (Go.bits .and .i64 a2 63)))).bind fun bt296 => ((some (([] : List Int) : List Int)).bind fun y299 => (if y299.length + t284.length < 140737488355328 then ((some (y299 ++ t284 : List Int)).bind fun y302 => (if y302.length + l3.length < 140737488355328 then ((leb_ReadS.f k (y302 ++ l3) 0 (wrap64 (1 + (Go.bits .and .i64 a2 63)))).bind fun bt308 => (if (wrap64 (1 + (Go.bits .and .i64 a2 63))) = 64 then (avocetlaw01_LebBack.j0 k a0 a1 t280 (wrap64 (1 + (Go.bits .and .i64 a2 63))) t281 t284 bt296.1 bt296.2.1 bt296.2.2 bt308.1 bt308.2.1 bt308.2.2 true) else (if 0 ≤ (IntKind.u64.wrap (wrap64 (1 + (Go.bits .and .i64 a2 63)))) then (avocetlaw01_LebBack.j0 k a0 a1 t280 (wrap64 (1 + (Go.bits .and .i64 a2 63))) t281 t284 bt296.1 bt296.2.1 bt296.2.2 bt308.1 bt308.2.1 bt308.2.2 (decide (a0 < (shl .u64 1 (IntKind.u64.wrap (wrap64 (1 + (Go.bits .and .i64 a2 63)))))))) else (none)))) else (none))) else (none)))) else (none))) else (none))))))) = some r := h
  clear h
  replace H := Option.bind_eq_some_iff.mp H
  obtain ⟨t280, A50, H⟩ := H
  replace H : (if (l3.length : Int) > 100 then (some t280) else ((leb_U.f k ([] : List Int) a0).bind fun t281 => ((leb_S.f k ([] : List Int) a1).bind fun t284 => ((some (([] : List Int) : List Int)).bind fun y287 => (if y287.length + t281.length < 140737488355328 then ((some (y287 ++ t281 : List Int)).bind fun y290 => (if y290.length + l3.length < 140737488355328 then ((leb_ReadU.f (y290 ++ l3) 0 (wrap64 (1 + (Go.bits .and .i64 a2 63)))).bind fun bt296 => ((some (([] : List Int) : List Int)).bind fun y299 => (if y299.length + t284.length < 140737488355328 then ((some (y299 ++ t284 : List Int)).bind fun y302 => (if y302.length + l3.length < 140737488355328 then ((leb_ReadS.f k (y302 ++ l3) 0 (wrap64 (1 + (Go.bits .and .i64 a2 63)))).bind fun bt308 => (if (wrap64 (1 + (Go.bits .and .i64 a2 63))) = 64 then (avocetlaw01_LebBack.j0 k a0 a1 t280 (wrap64 (1 + (Go.bits .and .i64 a2 63))) t281 t284 bt296.1 bt296.2.1 bt296.2.2 bt308.1 bt308.2.1 bt308.2.2 true) else (if 0 ≤ (IntKind.u64.wrap (wrap64 (1 + (Go.bits .and .i64 a2 63)))) then (avocetlaw01_LebBack.j0 k a0 a1 t280 (wrap64 (1 + (Go.bits .and .i64 a2 63))) t281 t284 bt296.1 bt296.2.1 bt296.2.2 bt308.1 bt308.2.1 bt308.2.2 (decide (a0 < (shl .u64 1 (IntKind.u64.wrap (wrap64 (1 + (Go.bits .and .i64 a2 63)))))))) else (none)))) else (none))) else (none)))) else (none))) else (none)))))) = some r := H
  have A5 := Aside0.mk A50
  clear A50
  by_cases c6 : (l3.length : Int) > 100
  · rw [if_pos c6] at H
    have c6b0 : decide (100 < (l3.length : Int)) = true := decide_eq_true c6
    have c6b1 : decide (100 < l3.length) = true := decide_eq_true (by omega)
    clear c6
    obtain rfl := Option.some.inj H
    go_enter Try.func9, Try.ntmps9
    go_wp2_with (first | ((with_reducible refine gate_callee (f := 10) rfl ?_); refine goesL_ (some 27) rfl rfl Try.func10 (by kernel_rfl) rfl #[] rfl (by (try simp only [List.map_toArray, List.map_cons, List.map_nil]); first | done | rfl | (simp only [List.length_drop, List.length_take]; rfl)) ?_; (with_reducible refine (avocetlaw01_awake.calls k  t280 _ A5.out).mono ?_); rintro e w7 ⟨rfl, hb⟩; refine ⟨_, rfl, ?_⟩; have n0_ := Aside0.mk (below_step (by repeat (first | (with_reducible first | exact HB.out | apply below_alloc | apply pw_below_drewN | apply below_drew1) | exact HB.out)) hb); clear HB; have HB := n0_; clear n0_; (try clear hb); (try clear hb2); (try clear hk); (try clear hi)))
    go_ret
    exact ⟨by first | rfl | (simp [errW_none, errW_some] <;> rfl) | (simp [*, errW_none, errW_some] <;> rfl), by repeat (first | (with_reducible first | exact HB.out | apply below_alloc | apply pw_below_drewN | apply below_drew1) | exact HB.out)⟩
  · rw [if_neg c6] at H
    have c6b0 : decide (100 < (l3.length : Int)) = false := decide_eq_false c6
    have c6b1 : decide (100 < l3.length) = false := decide_eq_false (by omega)
    clear c6
    replace H := Option.bind_eq_some_iff.mp H
    obtain ⟨t281, A80, H⟩ := H
    replace H : ((leb_S.f k ([] : List Int) a1).bind fun t284 => ((some (([] : List Int) : List Int)).bind fun y287 => (if y287.length + t281.length < 140737488355328 then ((some (y287 ++ t281 : List Int)).bind fun y290 => (if y290.length + l3.length < 140737488355328 then ((leb_ReadU.f (y290 ++ l3) 0 (wrap64 (1 + (Go.bits .and .i64 a2 63)))).bind fun bt296 => ((some (([] : List Int) : List Int)).bind fun y299 => (if y299.length + t284.length < 140737488355328 then ((some (y299 ++ t284 : List Int)).bind fun y302 => (if y302.length + l3.length < 140737488355328 then ((leb_ReadS.f k (y302 ++ l3) 0 (wrap64 (1 + (Go.bits .and .i64 a2 63)))).bind fun bt308 => (if (wrap64 (1 + (Go.bits .and .i64 a2 63))) = 64 then (avocetlaw01_LebBack.j0 k a0 a1 t280 (wrap64 (1 + (Go.bits .and .i64 a2 63))) t281 t284 bt296.1 bt296.2.1 bt296.2.2 bt308.1 bt308.2.1 bt308.2.2 true) else (if 0 ≤ (IntKind.u64.wrap (wrap64 (1 + (Go.bits .and .i64 a2 63)))) then (avocetlaw01_LebBack.j0 k a0 a1 t280 (wrap64 (1 + (Go.bits .and .i64 a2 63))) t281 t284 bt296.1 bt296.2.1 bt296.2.2 bt308.1 bt308.2.1 bt308.2.2 (decide (a0 < (shl .u64 1 (IntKind.u64.wrap (wrap64 (1 + (Go.bits .and .i64 a2 63)))))))) else (none)))) else (none))) else (none)))) else (none))) else (none)))) = some r := H
    have A8 := Aside0.mk A80
    clear A80
    replace H := Option.bind_eq_some_iff.mp H
    obtain ⟨t284, A90, H⟩ := H
    replace H : ((some (([] : List Int) : List Int)).bind fun y287 => (if y287.length + t281.length < 140737488355328 then ((some (y287 ++ t281 : List Int)).bind fun y290 => (if y290.length + l3.length < 140737488355328 then ((leb_ReadU.f (y290 ++ l3) 0 (wrap64 (1 + (Go.bits .and .i64 a2 63)))).bind fun bt296 => ((some (([] : List Int) : List Int)).bind fun y299 => (if y299.length + t284.length < 140737488355328 then ((some (y299 ++ t284 : List Int)).bind fun y302 => (if y302.length + l3.length < 140737488355328 then ((leb_ReadS.f k (y302 ++ l3) 0 (wrap64 (1 + (Go.bits .and .i64 a2 63)))).bind fun bt308 => (if (wrap64 (1 + (Go.bits .and .i64 a2 63))) = 64 then (avocetlaw01_LebBack.j0 k a0 a1 t280 (wrap64 (1 + (Go.bits .and .i64 a2 63))) t281 t284 bt296.1 bt296.2.1 bt296.2.2 bt308.1 bt308.2.1 bt308.2.2 true) else (if 0 ≤ (IntKind.u64.wrap (wrap64 (1 + (Go.bits .and .i64 a2 63)))) then (avocetlaw01_LebBack.j0 k a0 a1 t280 (wrap64 (1 + (Go.bits .and .i64 a2 63))) t281 t284 bt296.1 bt296.2.1 bt296.2.2 bt308.1 bt308.2.1 bt308.2.2 (decide (a0 < (shl .u64 1 (IntKind.u64.wrap (wrap64 (1 + (Go.bits .and .i64 a2 63)))))))) else (none)))) else (none))) else (none)))) else (none))) else (none))) = some r := H
    have A9 := Aside0.mk A90
    clear A90
    obtain ⟨y287, hy287⟩ : ∃ y_ : List Int, y_ = (([] : List Int)) := ⟨_, rfl⟩
    replace H : (if y287.length + t281.length < 140737488355328 then ((some (y287 ++ t281 : List Int)).bind fun y290 => (if y290.length + l3.length < 140737488355328 then ((leb_ReadU.f (y290 ++ l3) 0 (wrap64 (1 + (Go.bits .and .i64 a2 63)))).bind fun bt296 => ((some (([] : List Int) : List Int)).bind fun y299 => (if y299.length + t284.length < 140737488355328 then ((some (y299 ++ t284 : List Int)).bind fun y302 => (if y302.length + l3.length < 140737488355328 then ((leb_ReadS.f k (y302 ++ l3) 0 (wrap64 (1 + (Go.bits .and .i64 a2 63)))).bind fun bt308 => (if (wrap64 (1 + (Go.bits .and .i64 a2 63))) = 64 then (avocetlaw01_LebBack.j0 k a0 a1 t280 (wrap64 (1 + (Go.bits .and .i64 a2 63))) t281 t284 bt296.1 bt296.2.1 bt296.2.2 bt308.1 bt308.2.1 bt308.2.2 true) else (if 0 ≤ (IntKind.u64.wrap (wrap64 (1 + (Go.bits .and .i64 a2 63)))) then (avocetlaw01_LebBack.j0 k a0 a1 t280 (wrap64 (1 + (Go.bits .and .i64 a2 63))) t281 t284 bt296.1 bt296.2.1 bt296.2.2 bt308.1 bt308.2.1 bt308.2.2 (decide (a0 < (shl .u64 1 (IntKind.u64.wrap (wrap64 (1 + (Go.bits .and .i64 a2 63)))))))) else (none)))) else (none))) else (none)))) else (none))) else (none)) = some r := by first | (rw [hy287]; with_reducible exact H) | (have H2_ := (Option.bind_some _ _).symm.trans H; rw [hy287]; with_reducible exact H2_) | (have H2_ := (Option.bind_some _ _).symm.trans H; with_reducible exact H2_) | with_reducible exact H | (rw [hy287]; exact H) | exact H
    have Ny287 := Aside0.mk hy287
    clear hy287
    by_cases c10 : y287.length + t281.length < 140737488355328
    · rw [if_pos c10] at H
      have LMc10 := Aside0.mk c10
      clear c10
      obtain ⟨y290, hy290⟩ : ∃ y_ : List Int, y_ = (y287 ++ t281) := ⟨_, rfl⟩
      replace H : (if y290.length + l3.length < 140737488355328 then ((leb_ReadU.f (y290 ++ l3) 0 (wrap64 (1 + (Go.bits .and .i64 a2 63)))).bind fun bt296 => ((some (([] : List Int) : List Int)).bind fun y299 => (if y299.length + t284.length < 140737488355328 then ((some (y299 ++ t284 : List Int)).bind fun y302 => (if y302.length + l3.length < 140737488355328 then ((leb_ReadS.f k (y302 ++ l3) 0 (wrap64 (1 + (Go.bits .and .i64 a2 63)))).bind fun bt308 => (if (wrap64 (1 + (Go.bits .and .i64 a2 63))) = 64 then (avocetlaw01_LebBack.j0 k a0 a1 t280 (wrap64 (1 + (Go.bits .and .i64 a2 63))) t281 t284 bt296.1 bt296.2.1 bt296.2.2 bt308.1 bt308.2.1 bt308.2.2 true) else (if 0 ≤ (IntKind.u64.wrap (wrap64 (1 + (Go.bits .and .i64 a2 63)))) then (avocetlaw01_LebBack.j0 k a0 a1 t280 (wrap64 (1 + (Go.bits .and .i64 a2 63))) t281 t284 bt296.1 bt296.2.1 bt296.2.2 bt308.1 bt308.2.1 bt308.2.2 (decide (a0 < (shl .u64 1 (IntKind.u64.wrap (wrap64 (1 + (Go.bits .and .i64 a2 63)))))))) else (none)))) else (none))) else (none)))) else (none)) = some r := by first | (rw [hy290]; with_reducible exact H) | (have H2_ := (Option.bind_some _ _).symm.trans H; rw [hy290]; with_reducible exact H2_) | (have H2_ := (Option.bind_some _ _).symm.trans H; with_reducible exact H2_) | with_reducible exact H | (rw [hy290]; exact H) | exact H
      have Ny290 := Aside0.mk hy290
      clear hy290
      by_cases c11 : y290.length + l3.length < 140737488355328
      · rw [if_pos c11] at H
        have LMc11 := Aside0.mk c11
        clear c11
        obtain ⟨y293, hy293⟩ : ∃ y_ : List Int, y_ = (y290 ++ l3) := ⟨_, rfl⟩
        replace H : ((leb_ReadU.f y293 0 (wrap64 (1 + (Go.bits .and .i64 a2 63)))).bind fun bt296 => ((some (([] : List Int) : List Int)).bind fun y299 => (if y299.length + t284.length < 140737488355328 then ((some (y299 ++ t284 : List Int)).bind fun y302 => (if y302.length + l3.length < 140737488355328 then ((leb_ReadS.f k (y302 ++ l3) 0 (wrap64 (1 + (Go.bits .and .i64 a2 63)))).bind fun bt308 => (if (wrap64 (1 + (Go.bits .and .i64 a2 63))) = 64 then (avocetlaw01_LebBack.j0 k a0 a1 t280 (wrap64 (1 + (Go.bits .and .i64 a2 63))) t281 t284 bt296.1 bt296.2.1 bt296.2.2 bt308.1 bt308.2.1 bt308.2.2 true) else (if 0 ≤ (IntKind.u64.wrap (wrap64 (1 + (Go.bits .and .i64 a2 63)))) then (avocetlaw01_LebBack.j0 k a0 a1 t280 (wrap64 (1 + (Go.bits .and .i64 a2 63))) t281 t284 bt296.1 bt296.2.1 bt296.2.2 bt308.1 bt308.2.1 bt308.2.2 (decide (a0 < (shl .u64 1 (IntKind.u64.wrap (wrap64 (1 + (Go.bits .and .i64 a2 63)))))))) else (none)))) else (none))) else (none)))) = some r := by first | (rw [hy293]; with_reducible exact H) | (have H2_ := (Option.bind_some _ _).symm.trans H; rw [hy293]; with_reducible exact H2_) | (have H2_ := (Option.bind_some _ _).symm.trans H; with_reducible exact H2_) | with_reducible exact H | (rw [hy293]; exact H) | exact H
        have Ny293 := Aside0.mk hy293
        clear hy293
        replace H := Option.bind_eq_some_iff.mp H
        obtain ⟨⟨t296, t297, t298⟩, A120, H⟩ := H
        replace H : ((some (([] : List Int) : List Int)).bind fun y299 => (if y299.length + t284.length < 140737488355328 then ((some (y299 ++ t284 : List Int)).bind fun y302 => (if y302.length + l3.length < 140737488355328 then ((leb_ReadS.f k (y302 ++ l3) 0 (wrap64 (1 + (Go.bits .and .i64 a2 63)))).bind fun bt308 => (if (wrap64 (1 + (Go.bits .and .i64 a2 63))) = 64 then (avocetlaw01_LebBack.j0 k a0 a1 t280 (wrap64 (1 + (Go.bits .and .i64 a2 63))) t281 t284 t296 t297 t298 bt308.1 bt308.2.1 bt308.2.2 true) else (if 0 ≤ (IntKind.u64.wrap (wrap64 (1 + (Go.bits .and .i64 a2 63)))) then (avocetlaw01_LebBack.j0 k a0 a1 t280 (wrap64 (1 + (Go.bits .and .i64 a2 63))) t281 t284 t296 t297 t298 bt308.1 bt308.2.1 bt308.2.2 (decide (a0 < (shl .u64 1 (IntKind.u64.wrap (wrap64 (1 + (Go.bits .and .i64 a2 63)))))))) else (none)))) else (none))) else (none))) = some r := H
        have A12 := Aside0.mk A120
        clear A120
        obtain ⟨y299, hy299⟩ : ∃ y_ : List Int, y_ = (([] : List Int)) := ⟨_, rfl⟩
        replace H : (if y299.length + t284.length < 140737488355328 then ((some (y299 ++ t284 : List Int)).bind fun y302 => (if y302.length + l3.length < 140737488355328 then ((leb_ReadS.f k (y302 ++ l3) 0 (wrap64 (1 + (Go.bits .and .i64 a2 63)))).bind fun bt308 => (if (wrap64 (1 + (Go.bits .and .i64 a2 63))) = 64 then (avocetlaw01_LebBack.j0 k a0 a1 t280 (wrap64 (1 + (Go.bits .and .i64 a2 63))) t281 t284 t296 t297 t298 bt308.1 bt308.2.1 bt308.2.2 true) else (if 0 ≤ (IntKind.u64.wrap (wrap64 (1 + (Go.bits .and .i64 a2 63)))) then (avocetlaw01_LebBack.j0 k a0 a1 t280 (wrap64 (1 + (Go.bits .and .i64 a2 63))) t281 t284 t296 t297 t298 bt308.1 bt308.2.1 bt308.2.2 (decide (a0 < (shl .u64 1 (IntKind.u64.wrap (wrap64 (1 + (Go.bits .and .i64 a2 63)))))))) else (none)))) else (none))) else (none)) = some r := by first | (rw [hy299]; with_reducible exact H) | (have H2_ := (Option.bind_some _ _).symm.trans H; rw [hy299]; with_reducible exact H2_) | (have H2_ := (Option.bind_some _ _).symm.trans H; with_reducible exact H2_) | with_reducible exact H | (rw [hy299]; exact H) | exact H
        have Ny299 := Aside0.mk hy299
        clear hy299
        by_cases c13 : y299.length + t284.length < 140737488355328
        · rw [if_pos c13] at H
          have LMc13 := Aside0.mk c13
          clear c13
          obtain ⟨y302, hy302⟩ : ∃ y_ : List Int, y_ = (y299 ++ t284) := ⟨_, rfl⟩
          replace H : (if y302.length + l3.length < 140737488355328 then ((leb_ReadS.f k (y302 ++ l3) 0 (wrap64 (1 + (Go.bits .and .i64 a2 63)))).bind fun bt308 => (if (wrap64 (1 + (Go.bits .and .i64 a2 63))) = 64 then (avocetlaw01_LebBack.j0 k a0 a1 t280 (wrap64 (1 + (Go.bits .and .i64 a2 63))) t281 t284 t296 t297 t298 bt308.1 bt308.2.1 bt308.2.2 true) else (if 0 ≤ (IntKind.u64.wrap (wrap64 (1 + (Go.bits .and .i64 a2 63)))) then (avocetlaw01_LebBack.j0 k a0 a1 t280 (wrap64 (1 + (Go.bits .and .i64 a2 63))) t281 t284 t296 t297 t298 bt308.1 bt308.2.1 bt308.2.2 (decide (a0 < (shl .u64 1 (IntKind.u64.wrap (wrap64 (1 + (Go.bits .and .i64 a2 63)))))))) else (none)))) else (none)) = some r := by first | (rw [hy302]; with_reducible exact H) | (have H2_ := (Option.bind_some _ _).symm.trans H; rw [hy302]; with_reducible exact H2_) | (have H2_ := (Option.bind_some _ _).symm.trans H; with_reducible exact H2_) | with_reducible exact H | (rw [hy302]; exact H) | exact H
          have Ny302 := Aside0.mk hy302
          clear hy302
          by_cases c14 : y302.length + l3.length < 140737488355328
          · rw [if_pos c14] at H
            have LMc14 := Aside0.mk c14
            clear c14
            obtain ⟨y305, hy305⟩ : ∃ y_ : List Int, y_ = (y302 ++ l3) := ⟨_, rfl⟩
            replace H : ((leb_ReadS.f k y305 0 (wrap64 (1 + (Go.bits .and .i64 a2 63)))).bind fun bt308 => (if (wrap64 (1 + (Go.bits .and .i64 a2 63))) = 64 then (avocetlaw01_LebBack.j0 k a0 a1 t280 (wrap64 (1 + (Go.bits .and .i64 a2 63))) t281 t284 t296 t297 t298 bt308.1 bt308.2.1 bt308.2.2 true) else (if 0 ≤ (IntKind.u64.wrap (wrap64 (1 + (Go.bits .and .i64 a2 63)))) then (avocetlaw01_LebBack.j0 k a0 a1 t280 (wrap64 (1 + (Go.bits .and .i64 a2 63))) t281 t284 t296 t297 t298 bt308.1 bt308.2.1 bt308.2.2 (decide (a0 < (shl .u64 1 (IntKind.u64.wrap (wrap64 (1 + (Go.bits .and .i64 a2 63)))))))) else (none)))) = some r := by first | (rw [hy305]; with_reducible exact H) | (have H2_ := (Option.bind_some _ _).symm.trans H; rw [hy305]; with_reducible exact H2_) | (have H2_ := (Option.bind_some _ _).symm.trans H; with_reducible exact H2_) | with_reducible exact H | (rw [hy305]; exact H) | exact H
            have Ny305 := Aside0.mk hy305
            clear hy305
            replace H := Option.bind_eq_some_iff.mp H
            obtain ⟨⟨t308, t309, t310⟩, A150, H⟩ := H
            replace H : (if (wrap64 (1 + (Go.bits .and .i64 a2 63))) = 64 then (avocetlaw01_LebBack.j0 k a0 a1 t280 (wrap64 (1 + (Go.bits .and .i64 a2 63))) t281 t284 t296 t297 t298 t308 t309 t310 true) else (if 0 ≤ (IntKind.u64.wrap (wrap64 (1 + (Go.bits .and .i64 a2 63)))) then (avocetlaw01_LebBack.j0 k a0 a1 t280 (wrap64 (1 + (Go.bits .and .i64 a2 63))) t281 t284 t296 t297 t298 t308 t309 t310 (decide (a0 < (shl .u64 1 (IntKind.u64.wrap (wrap64 (1 + (Go.bits .and .i64 a2 63)))))))) else (none))) = some r := H
            have A15 := Aside0.mk A150
            clear A150
            have HC16 := Aside0.mk H
            clear H
            go_enter Try.func9, Try.ntmps9
            go_upto_region 9 with (first | ((with_reducible refine gate_callee (f := 10) rfl ?_); refine goesL_ (some 27) rfl rfl Try.func10 (by kernel_rfl) rfl #[] rfl (by (try simp only [List.map_toArray, List.map_cons, List.map_nil]); first | done | rfl | (simp only [List.length_drop, List.length_take]; rfl)) ?_; (with_reducible refine (avocetlaw01_awake.calls k  t280 _ A5.out).mono ?_); rintro e w17 ⟨rfl, hb⟩; refine ⟨_, rfl, ?_⟩; have n0_ := Aside0.mk (below_step (by repeat (first | (with_reducible first | exact HB.out | apply below_alloc | apply pw_below_drewN | apply below_drew1) | exact HB.out)) hb); clear HB; have HB := n0_; clear n0_; (try clear hb); (try clear hb2); (try clear hk); (try clear hi)) | ((with_reducible refine gate_callee (f := 11) rfl ?_); refine goesL_ (some 36) rfl rfl Try.func11 (by kernel_rfl) rfl #[.slice none 0 0, .int .u64 a0] rfl (by (try simp only [List.map_toArray, List.map_cons, List.map_nil]); first | done | rfl | (simp only [List.length_drop, List.length_take]; rfl)) ?_; (refine (leb_U.calls k _ _ ([] : List Int) a0 t281 _ ?side1 ?side2 A8.out).mono ?_); (case side1 => exact Kd.C_nil _ _); (case side2 => exact Nat.le_refl _); rintro e w18 ⟨v282, rfl, ho0, hb⟩; refine ⟨_, rfl, ?_⟩; have n0_ := Aside0.mk (Kd.R_lower ho0 (below_size (by repeat (first | (with_reducible first | exact HB.out | apply below_alloc | apply pw_below_drewN | apply below_drew1) | exact HB.out)))); have n1_ := Aside0.mk (below_step (by repeat (first | (with_reducible first | exact HB.out | apply below_alloc | apply pw_below_drewN | apply below_drew1) | exact HB.out)) hb); clear HB; have HO283 := n0_; have HB := n1_; clear n0_ n1_; (try clear hb); (try clear hb2); (try clear hk); (try clear hi); (try clear ho0)) | ((with_reducible refine gate_callee (f := 13) rfl ?_); refine goesL_ (some 38) rfl rfl Try.func13 (by kernel_rfl) rfl #[.slice none 0 0, .int .i64 a1] rfl (by (try simp only [List.map_toArray, List.map_cons, List.map_nil]); first | done | rfl | (simp only [List.length_drop, List.length_take]; rfl)) ?_; (refine (leb_S.calls k _ _ ([] : List Int) a1 t284 _ ?side1 ?side2 A9.out).mono ?_); (case side1 => exact Kd.C_nil _ _); (case side2 => exact Nat.le_refl _); rintro e w19 ⟨v285, rfl, ho0, hb⟩; refine ⟨_, rfl, ?_⟩; have n0_ := Aside0.mk (Kd.R_elder' (by (with_reducible repeat (first | apply Kd.R_alloc | apply Kd.R_drewN | apply Kd.R_drew)); exact HO283.out) (Kd.R_base ho0) hb); have n1_ := Aside0.mk (Kd.R_lower (Kd.R_new' ho0 (Kd.R_lt (by (with_reducible repeat (first | apply Kd.R_alloc | apply Kd.R_drewN | apply Kd.R_drew)); exact HO283.out))) (below_size (by repeat (first | (with_reducible first | exact HB.out | apply below_alloc | apply pw_below_drewN | apply below_drew1) | exact HB.out)))); have n2_ := Aside0.mk (below_step (by repeat (first | (with_reducible first | exact HB.out | apply below_alloc | apply pw_below_drewN | apply below_drew1) | exact HB.out)) hb); clear HO283; clear HB; have HO283 := n0_; have HO286 := n1_; have HB := n2_; clear n0_ n1_ n2_; (try clear hb); (try clear hb2); (try clear hk); (try clear hi); (try clear ho0)) | ((with_reducible refine gate_dst (N := 40) rfl ?_); (try (refine gate_guard (by rfl) ?_; dsimp only)); refine Kd.R_lit (Kd.int .u8) _ 5 ?hg (N := 40) ?hd (xs := ([] : List Int)) (inner := []) (ok := fun _ => True) (okp := fun _ => True) ?hr ?hp (fun _ hk => hk) trivial (Below.refl _ _) (Nat.le_refl _) (by simp) ?_; (case hd => rfl); (case hg => rfl); (case hr => first | (go_simp; done) | (go_simp; rfl)); (case hp => exact (Reps.none _ _)); intro v288 w20 ho21 hb hg_ hnew_; clear hg_ hnew_; (first | rw [← Ny287.out] at ho21 | (simp only [Int.reduceToNat] at ho21; rw [← Ny287.out] at ho21)); have n0_ := Aside0.mk (Kd.R_elder' (by (with_reducible repeat (first | apply Kd.R_alloc | apply Kd.R_drewN | apply Kd.R_drew)); exact HO283.out) (Kd.R_base ho21) hb); have n1_ := Aside0.mk (Kd.R_elder' (by (with_reducible repeat (first | apply Kd.R_alloc | apply Kd.R_drewN | apply Kd.R_drew)); exact HO286.out) (Kd.R_base ho21) hb); have n2_ := Aside0.mk (Kd.R_lower (Kd.R_new' (Kd.R_new' ho21 (Kd.R_lt (by (with_reducible repeat (first | apply Kd.R_alloc | apply Kd.R_drewN | apply Kd.R_drew)); exact HO283.out))) (Kd.R_lt (by (with_reducible repeat (first | apply Kd.R_alloc | apply Kd.R_drewN | apply Kd.R_drew)); exact HO286.out))) (below_size (by repeat (first | (with_reducible first | exact HB.out | apply below_alloc | apply pw_below_drewN | apply below_drew1) | exact HB.out)))); have n3_ := Aside0.mk (below_step (by repeat (first | (with_reducible first | exact HB.out | apply below_alloc | apply pw_below_drewN | apply below_drew1) | exact HB.out)) hb); clear HO283; clear HO286; clear HB; have HO283 := n0_; have HO286 := n1_; have HO289 := n2_; have HB := n3_; clear n0_ n1_ n2_ n3_; clear hb ho21; obtain ⟨Ao23, co23, eo23⟩ := Kd.R_slice HO283.out; subst eo23) | ((with_reducible refine gate_builtin (b := .append) (xs := #[.tmp 40, .tmp 41]) rfl ?_); (try (refine gate_guard (by rfl) ?_; dsimp only)); at_builtin; refine Kd.R_append_rows (Kd.int .u8) (w0 := w) w.heap.size rfl (.tmp 40) (.tmp 41) 22 5 (.int .u8 0) 1 rfl Try.underlying22 info5 rfl (by decide) (by omega) v288 y287 t281 _ _ _ (fun k_ => some k_ ≠ (.slice Ao23 t281.length co23 : Value).ownBlock ∧ some k_ ≠ (v285 : Value).ownBlock) (fun _ => False) rfl rfl ?aO ?aR (fun _ _ h => h) (fun _ h => h.elim) ?aF ?aB ?aS ?aL ?_; (case aR => repeat (first | exact (Kd.R_reads' HO283.out).2.2 | (with_reducible refine Kd.C_alloc ?_ _) | (with_reducible refine Kd.C_drewN ?_ _) | (with_reducible refine Kd.C_drew ?_))); (case aB => exact (by repeat (first | (with_reducible first | exact HB.out | apply below_alloc | apply pw_below_drewN | apply below_drew1) | exact HB.out))); (case aF => exact (fun k_ hk => ⟨Kd.fresh' (Kd.R_lt (by (with_reducible repeat (first | apply Kd.R_alloc | apply Kd.R_drewN | apply Kd.R_drew)); exact HO283.out)) k_ hk, Kd.fresh' (Kd.R_lt (by (with_reducible repeat (first | apply Kd.R_alloc | apply Kd.R_drewN | apply Kd.R_drew)); exact HO286.out)) k_ hk⟩)); (case aO => exact (by (with_reducible repeat (first | apply Kd.R_alloc | apply Kd.R_drewN | apply Kd.R_drew)); exact Kd.R_mono HO289.out (fun _ hk => ⟨hk.1.2, hk.2⟩))); (case aS => exact (below_size (by repeat (first | (with_reducible first | exact HB.out | apply below_alloc | apply pw_below_drewN | apply below_drew1) | exact HB.out)))); (case aL => have := LMc10.out; omega); intro v291 w22 ho hb hg hat; rw [← Ny290.out] at ho; have n0_ := Aside0.mk (Kd.R_after (ok := (fun k_ => some k_ ≠ (v285 : Value).ownBlock)) (by (with_reducible repeat (first | apply Kd.R_alloc | apply Kd.R_drewN | apply Kd.R_drew)); exact Kd.R_mono HO283.out (fun _ hk => ⟨hk.1.2, hk.2⟩)) hg hat); have n1_ := Aside0.mk (Kd.R_after (ok := (fun k_ => some k_ ≠ (.slice Ao23 t281.length co23 : Value).ownBlock)) (by (with_reducible repeat (first | apply Kd.R_alloc | apply Kd.R_drewN | apply Kd.R_drew)); exact Kd.R_mono HO286.out (fun _ hk => ⟨hk.1.2, hk.2⟩)) hg hat); have n2_ := Aside0.mk (hb); have n3_ := Aside0.mk (ho); clear HO283; clear HO286; clear HB; clear HO289; have HO283 := n0_; have HO286 := n1_; have HB := n2_; have HO292 := n3_; clear n0_ n1_ n2_ n3_; clear ho hb hg hat) | ((with_reducible refine gate_builtin (b := .append) (xs := #[.tmp 42, .tmp 43]) rfl ?_); (try (refine gate_guard (by rfl) ?_; dsimp only)); at_builtin; refine Kd.R_append_rows (Kd.int .u8) (w0 := w) w.heap.size rfl (.tmp 42) (.tmp 43) 22 5 (.int .u8 0) 1 rfl Try.underlying22 info5 rfl (by decide) (by omega) v291 y290 l3 _ _ _ (fun k_ => some k_ ≠ (.slice Ao23 t281.length co23 : Value).ownBlock ∧ some k_ ≠ (v285 : Value).ownBlock) (fun _ => False) rfl rfl ?aO ?aR (fun _ _ h => h) (fun _ h => h.elim) ?aF ?aB ?aS ?aL ?_; (case aR => repeat (first | exact (Kd.C_below HR3.out HB.out) | (with_reducible refine Kd.C_alloc ?_ _) | (with_reducible refine Kd.C_drewN ?_ _) | (with_reducible refine Kd.C_drew ?_))); (case aB => exact (by repeat (first | (with_reducible first | exact HB.out | apply below_alloc | apply pw_below_drewN | apply below_drew1) | exact HB.out))); (case aF => exact (fun k_ hk => ⟨Kd.fresh' (Kd.R_lt (by (with_reducible repeat (first | apply Kd.R_alloc | apply Kd.R_drewN | apply Kd.R_drew)); exact HO283.out)) k_ hk, Kd.fresh' (Kd.R_lt (by (with_reducible repeat (first | apply Kd.R_alloc | apply Kd.R_drewN | apply Kd.R_drew)); exact HO286.out)) k_ hk⟩)); (case aO => exact (by (with_reducible repeat (first | apply Kd.R_alloc | apply Kd.R_drewN | apply Kd.R_drew)); exact HO292.out)); (case aS => exact (below_size (by repeat (first | (with_reducible first | exact HB.out | apply below_alloc | apply pw_below_drewN | apply below_drew1) | exact HB.out)))); (case aL => have := LMc11.out; omega); intro v294 w24 ho hb hg hat; rw [← Ny293.out] at ho; have n0_ := Aside0.mk (Kd.R_after (ok := (fun k_ => some k_ ≠ (v285 : Value).ownBlock)) (by (with_reducible repeat (first | apply Kd.R_alloc | apply Kd.R_drewN | apply Kd.R_drew)); exact HO283.out) hg hat); have n1_ := Aside0.mk (Kd.R_after (ok := (fun k_ => some k_ ≠ (.slice Ao23 t281.length co23 : Value).ownBlock)) (by (with_reducible repeat (first | apply Kd.R_alloc | apply Kd.R_drewN | apply Kd.R_drew)); exact HO286.out) hg hat); have n2_ := Aside0.mk (hb); have n3_ := Aside0.mk (ho); clear HO283; clear HO286; clear HB; clear HO292; have HO283 := n0_; have HO286 := n1_; have HB := n2_; have HO295 := n3_; clear n0_ n1_ n2_ n3_; clear ho hb hg hat; obtain ⟨Ao25, co25, eo25⟩ := Kd.R_slice HO295.out; subst eo25) | ((with_reducible refine gate_callee (f := 19) rfl ?_); refine goesL_ (some 46) rfl rfl Try.func19 (by kernel_rfl) rfl #[.slice Ao25 y293.length co25, .int .i64 0, .int .i64 (wrap64 (1 + (Go.bits .and .i64 a2 63)))] rfl (by (try simp only [List.map_toArray, List.map_cons, List.map_nil]); first | done | rfl | (simp only [List.length_drop, List.length_take]; rfl)) ?_; (with_reducible refine (leb_ReadU.calls _ _ y293 0 (wrap64 (1 + (Go.bits .and .i64 a2 63))) t296 t297 t298 _ ?side1 ?side2 A12.out).mono ?_); (case side1 => repeat (first | exact (Kd.R_reads' HO295.out).2.2 | (with_reducible refine Kd.C_alloc ?_ _) | (with_reducible refine Kd.C_drewN ?_ _) | (with_reducible refine Kd.C_drew ?_))); (case side2 => exact (Kd.R_reads' HO295.out).2.1); rintro e w26 ⟨rfl, hb⟩; refine ⟨_, rfl, ?_⟩; have n0_ := Aside0.mk (Kd.R_below (by (with_reducible repeat (first | apply Kd.R_alloc | apply Kd.R_drewN | apply Kd.R_drew)); exact HO283.out) hb); have n1_ := Aside0.mk (Kd.R_below (by (with_reducible repeat (first | apply Kd.R_alloc | apply Kd.R_drewN | apply Kd.R_drew)); exact HO286.out) hb); have n2_ := Aside0.mk (Kd.R_below (by (with_reducible repeat (first | apply Kd.R_alloc | apply Kd.R_drewN | apply Kd.R_drew)); exact HO295.out) hb); have n3_ := Aside0.mk (below_step (by repeat (first | (with_reducible first | exact HB.out | apply below_alloc | apply pw_below_drewN | apply below_drew1) | exact HB.out)) hb); clear HO283; clear HO286; clear HO295; clear HB; have HO283 := n0_; have HO286 := n1_; have HO295 := n2_; have HB := n3_; clear n0_ n1_ n2_ n3_; (try clear hb); (try clear hb2); (try clear hk); (try clear hi)) | ((with_reducible refine gate_dst (N := 51) rfl ?_); (try (refine gate_guard (by rfl) ?_; dsimp only)); refine Kd.R_lit (Kd.int .u8) _ 5 ?hg (N := 51) ?hd (xs := ([] : List Int)) (inner := []) (ok := fun _ => True) (okp := fun _ => True) ?hr ?hp (fun _ hk => hk) trivial (Below.refl _ _) (Nat.le_refl _) (by simp) ?_; (case hd => rfl); (case hg => rfl); (case hr => first | (go_simp; done) | (go_simp; rfl)); (case hp => exact (Reps.none _ _)); intro v300 w27 ho28 hb hg_ hnew_; clear hg_ hnew_; (first | rw [← Ny299.out] at ho28 | (simp only [Int.reduceToNat] at ho28; rw [← Ny299.out] at ho28)); have n0_ := Aside0.mk (Kd.R_elder' (by (with_reducible repeat (first | apply Kd.R_alloc | apply Kd.R_drewN | apply Kd.R_drew)); exact HO283.out) (Kd.R_base ho28) hb); have n1_ := Aside0.mk (Kd.R_elder' (by (with_reducible repeat (first | apply Kd.R_alloc | apply Kd.R_drewN | apply Kd.R_drew)); exact HO286.out) (Kd.R_base ho28) hb); have n2_ := Aside0.mk (Kd.R_elder' (by (with_reducible repeat (first | apply Kd.R_alloc | apply Kd.R_drewN | apply Kd.R_drew)); exact HO295.out) (Kd.R_base ho28) hb); have n3_ := Aside0.mk (Kd.R_lower (Kd.R_new' (Kd.R_new' (Kd.R_new' ho28 (Kd.R_lt (by (with_reducible repeat (first | apply Kd.R_alloc | apply Kd.R_drewN | apply Kd.R_drew)); exact HO283.out))) (Kd.R_lt (by (with_reducible repeat (first | apply Kd.R_alloc | apply Kd.R_drewN | apply Kd.R_drew)); exact HO286.out))) (Kd.R_lt (by (with_reducible repeat (first | apply Kd.R_alloc | apply Kd.R_drewN | apply Kd.R_drew)); exact HO295.out))) (below_size (by repeat (first | (with_reducible first | exact HB.out | apply below_alloc | apply pw_below_drewN | apply below_drew1) | exact HB.out)))); have n4_ := Aside0.mk (below_step (by repeat (first | (with_reducible first | exact HB.out | apply below_alloc | apply pw_below_drewN | apply below_drew1) | exact HB.out)) hb); clear HO283; clear HO286; clear HO295; clear HB; have HO283 := n0_; have HO286 := n1_; have HO295 := n2_; have HO301 := n3_; have HB := n4_; clear n0_ n1_ n2_ n3_ n4_; clear hb ho28; obtain ⟨Ao30, co30, eo30⟩ := Kd.R_slice HO286.out; subst eo30) | ((with_reducible refine gate_builtin (b := .append) (xs := #[.tmp 51, .tmp 52]) rfl ?_); (try (refine gate_guard (by rfl) ?_; dsimp only)); at_builtin; refine Kd.R_append_rows (Kd.int .u8) (w0 := w) w.heap.size rfl (.tmp 51) (.tmp 52) 22 5 (.int .u8 0) 1 rfl Try.underlying22 info5 rfl (by decide) (by omega) v300 y299 t284 _ _ _ (fun k_ => some k_ ≠ (.slice Ao23 t281.length co23 : Value).ownBlock ∧ some k_ ≠ (.slice Ao30 t284.length co30 : Value).ownBlock ∧ some k_ ≠ (.slice Ao25 y293.length co25 : Value).ownBlock) (fun _ => False) rfl rfl ?aO ?aR (fun _ _ h => h) (fun _ h => h.elim) ?aF ?aB ?aS ?aL ?_; (case aR => repeat (first | exact (Kd.R_reads' HO286.out).2.2 | (with_reducible refine Kd.C_alloc ?_ _) | (with_reducible refine Kd.C_drewN ?_ _) | (with_reducible refine Kd.C_drew ?_))); (case aB => exact (by repeat (first | (with_reducible first | exact HB.out | apply below_alloc | apply pw_below_drewN | apply below_drew1) | exact HB.out))); (case aF => exact (fun k_ hk => ⟨Kd.fresh' (Kd.R_lt (by (with_reducible repeat (first | apply Kd.R_alloc | apply Kd.R_drewN | apply Kd.R_drew)); exact HO283.out)) k_ hk, Kd.fresh' (Kd.R_lt (by (with_reducible repeat (first | apply Kd.R_alloc | apply Kd.R_drewN | apply Kd.R_drew)); exact HO286.out)) k_ hk, Kd.fresh' (Kd.R_lt (by (with_reducible repeat (first | apply Kd.R_alloc | apply Kd.R_drewN | apply Kd.R_drew)); exact HO295.out)) k_ hk⟩)); (case aO => exact (by (with_reducible repeat (first | apply Kd.R_alloc | apply Kd.R_drewN | apply Kd.R_drew)); exact Kd.R_mono HO301.out (fun _ hk => ⟨hk.1.1.2, ⟨hk.1.2, hk.2⟩⟩))); (case aS => exact (below_size (by repeat (first | (with_reducible first | exact HB.out | apply below_alloc | apply pw_below_drewN | apply below_drew1) | exact HB.out)))); (case aL => have := LMc13.out; omega); intro v303 w29 ho hb hg hat; rw [← Ny302.out] at ho; have n0_ := Aside0.mk (Kd.R_after (ok := (fun k_ => some k_ ≠ (.slice Ao30 t284.length co30 : Value).ownBlock ∧ some k_ ≠ (.slice Ao25 y293.length co25 : Value).ownBlock)) (by (with_reducible repeat (first | apply Kd.R_alloc | apply Kd.R_drewN | apply Kd.R_drew)); exact HO283.out) hg hat); have n1_ := Aside0.mk (Kd.R_after (ok := (fun k_ => some k_ ≠ (.slice Ao23 t281.length co23 : Value).ownBlock ∧ some k_ ≠ (.slice Ao25 y293.length co25 : Value).ownBlock)) (by (with_reducible repeat (first | apply Kd.R_alloc | apply Kd.R_drewN | apply Kd.R_drew)); exact HO286.out) hg hat); have n2_ := Aside0.mk (Kd.R_after (ok := (fun k_ => some k_ ≠ (.slice Ao23 t281.length co23 : Value).ownBlock ∧ some k_ ≠ (.slice Ao30 t284.length co30 : Value).ownBlock)) (by (with_reducible repeat (first | apply Kd.R_alloc | apply Kd.R_drewN | apply Kd.R_drew)); exact HO295.out) hg hat); have n3_ := Aside0.mk (hb); have n4_ := Aside0.mk (ho); clear HO283; clear HO286; clear HO295; clear HB; clear HO301; have HO283 := n0_; have HO286 := n1_; have HO295 := n2_; have HB := n3_; have HO304 := n4_; clear n0_ n1_ n2_ n3_ n4_; clear ho hb hg hat) | ((with_reducible refine gate_builtin (b := .append) (xs := #[.tmp 53, .tmp 54]) rfl ?_); (try (refine gate_guard (by rfl) ?_; dsimp only)); at_builtin; refine Kd.R_append_rows (Kd.int .u8) (w0 := w) w.heap.size rfl (.tmp 53) (.tmp 54) 22 5 (.int .u8 0) 1 rfl Try.underlying22 info5 rfl (by decide) (by omega) v303 y302 l3 _ _ _ (fun k_ => some k_ ≠ (.slice Ao23 t281.length co23 : Value).ownBlock ∧ some k_ ≠ (.slice Ao30 t284.length co30 : Value).ownBlock ∧ some k_ ≠ (.slice Ao25 y293.length co25 : Value).ownBlock) (fun _ => False) rfl rfl ?aO ?aR (fun _ _ h => h) (fun _ h => h.elim) ?aF ?aB ?aS ?aL ?_; (case aR => repeat (first | exact (Kd.C_below HR3.out HB.out) | (with_reducible refine Kd.C_alloc ?_ _) | (with_reducible refine Kd.C_drewN ?_ _) | (with_reducible refine Kd.C_drew ?_))); (case aB => exact (by repeat (first | (with_reducible first | exact HB.out | apply below_alloc | apply pw_below_drewN | apply below_drew1) | exact HB.out))); (case aF => exact (fun k_ hk => ⟨Kd.fresh' (Kd.R_lt (by (with_reducible repeat (first | apply Kd.R_alloc | apply Kd.R_drewN | apply Kd.R_drew)); exact HO283.out)) k_ hk, Kd.fresh' (Kd.R_lt (by (with_reducible repeat (first | apply Kd.R_alloc | apply Kd.R_drewN | apply Kd.R_drew)); exact HO286.out)) k_ hk, Kd.fresh' (Kd.R_lt (by (with_reducible repeat (first | apply Kd.R_alloc | apply Kd.R_drewN | apply Kd.R_drew)); exact HO295.out)) k_ hk⟩)); (case aO => exact (by (with_reducible repeat (first | apply Kd.R_alloc | apply Kd.R_drewN | apply Kd.R_drew)); exact HO304.out)); (case aS => exact (below_size (by repeat (first | (with_reducible first | exact HB.out | apply below_alloc | apply pw_below_drewN | apply below_drew1) | exact HB.out)))); (case aL => have := LMc14.out; omega); intro v306 w31 ho hb hg hat; rw [← Ny305.out] at ho; have n0_ := Aside0.mk (Kd.R_after (ok := (fun k_ => some k_ ≠ (.slice Ao30 t284.length co30 : Value).ownBlock ∧ some k_ ≠ (.slice Ao25 y293.length co25 : Value).ownBlock)) (by (with_reducible repeat (first | apply Kd.R_alloc | apply Kd.R_drewN | apply Kd.R_drew)); exact HO283.out) hg hat); have n1_ := Aside0.mk (Kd.R_after (ok := (fun k_ => some k_ ≠ (.slice Ao23 t281.length co23 : Value).ownBlock ∧ some k_ ≠ (.slice Ao25 y293.length co25 : Value).ownBlock)) (by (with_reducible repeat (first | apply Kd.R_alloc | apply Kd.R_drewN | apply Kd.R_drew)); exact HO286.out) hg hat); have n2_ := Aside0.mk (Kd.R_after (ok := (fun k_ => some k_ ≠ (.slice Ao23 t281.length co23 : Value).ownBlock ∧ some k_ ≠ (.slice Ao30 t284.length co30 : Value).ownBlock)) (by (with_reducible repeat (first | apply Kd.R_alloc | apply Kd.R_drewN | apply Kd.R_drew)); exact HO295.out) hg hat); have n3_ := Aside0.mk (hb); have n4_ := Aside0.mk (ho); clear HO283; clear HO286; clear HO295; clear HB; clear HO304; have HO283 := n0_; have HO286 := n1_; have HO295 := n2_; have HB := n3_; have HO307 := n4_; clear n0_ n1_ n2_ n3_ n4_; clear ho hb hg hat; obtain ⟨Ao32, co32, eo32⟩ := Kd.R_slice HO307.out; subst eo32) | ((with_reducible refine gate_callee (f := 21) rfl ?_); refine goesL_ (some 57) rfl rfl Try.func21 (by kernel_rfl) rfl #[.slice Ao32 y305.length co32, .int .i64 0, .int .i64 (wrap64 (1 + (Go.bits .and .i64 a2 63)))] rfl (by (try simp only [List.map_toArray, List.map_cons, List.map_nil]); first | done | rfl | (simp only [List.length_drop, List.length_take]; rfl)) ?_; (with_reducible refine (leb_ReadS.calls k _ _ y305 0 (wrap64 (1 + (Go.bits .and .i64 a2 63))) t308 t309 t310 _ ?side1 ?side2 A15.out).mono ?_); (case side1 => repeat (first | exact (Kd.R_reads' HO307.out).2.2 | (with_reducible refine Kd.C_alloc ?_ _) | (with_reducible refine Kd.C_drewN ?_ _) | (with_reducible refine Kd.C_drew ?_))); (case side2 => exact (Kd.R_reads' HO307.out).2.1); rintro e w33 ⟨rfl, hb⟩; refine ⟨_, rfl, ?_⟩; have n0_ := Aside0.mk (Kd.R_below (by (with_reducible repeat (first | apply Kd.R_alloc | apply Kd.R_drewN | apply Kd.R_drew)); exact HO283.out) hb); have n1_ := Aside0.mk (Kd.R_below (by (with_reducible repeat (first | apply Kd.R_alloc | apply Kd.R_drewN | apply Kd.R_drew)); exact HO286.out) hb); have n2_ := Aside0.mk (Kd.R_below (by (with_reducible repeat (first | apply Kd.R_alloc | apply Kd.R_drewN | apply Kd.R_drew)); exact HO295.out) hb); have n3_ := Aside0.mk (Kd.R_below (by (with_reducible repeat (first | apply Kd.R_alloc | apply Kd.R_drewN | apply Kd.R_drew)); exact HO307.out) hb); have n4_ := Aside0.mk (below_step (by repeat (first | (with_reducible first | exact HB.out | apply below_alloc | apply pw_below_drewN | apply below_drew1) | exact HB.out)) hb); clear HO283; clear HO286; clear HO295; clear HO307; clear HB; have HO283 := n0_; have HO286 := n1_; have HO295 := n2_; have HO307 := n3_; have HB := n4_; clear n0_ n1_ n2_ n3_ n4_; (try clear hb); (try clear hb2); (try clear hk); (try clear hi)))
            (try simp only [Act.put, List.setIfInBounds_toArray, List.set_cons_zero, List.set_cons_succ])
            go_cut [19] (fun v19 wc => ∃ (kq : Nat) (x19_15 : Bool), v19 = .bool x19_15 ∧ Aside0 (avocetlaw01_LebBack.j0 kq a0 a1 t280 (wrap64 (1 + (Go.bits .and .i64 a2 63))) t281 t284 t296 t297 t298 t308 t309 t310 x19_15 = some r) ∧ Aside0 (kq ≤ k) ∧ Aside0 (Kd.R (Kd.int .u8) 5 wc w.heap.size (fun k_ => some k_ ≠ ((.slice Ao30 t284.length co30) : Value).ownBlock) (.slice Ao23 t281.length co23) t281) ∧ Aside0 (Kd.R (Kd.int .u8) 5 wc w.heap.size (fun k_ => some k_ ≠ ((.slice Ao23 t281.length co23) : Value).ownBlock) (.slice Ao30 t284.length co30) t284) ∧ Aside0 (Below w.heap.size w wc))
            case first =>
              have H := HC16.out
              clear HC16
              by_cases c34 : (wrap64 (1 + (Go.bits .and .i64 a2 63))) = 64
              · rw [if_pos c34] at H
                have c34b0 : ((wrap64 (1 + (Go.bits .and .i64 a2 63))) == 64) = true := beq_iff_eq.mpr c34
                have c34b1 : ((wrap64 (1 + (Go.bits .and .i64 a2 63))) != 64) = false := bne_eq_false_iff_eq.mpr c34
                clear c34
                (first | rw [c34b0] | (simp only [i64_w, i32_w]; rw [c34b0]) | skip)
                have H' := Aside0.mk H
                clear H
                go_wp2
                go_meet
                case rel => exact ⟨_, (true), (by first | rfl | (simp; done) | (simp [*]; done)), H', ⟨by first | omega | exact Nat.le_refl _⟩, ⟨by (with_reducible repeat (first | apply Kd.R_alloc | apply Kd.R_drewN | apply Kd.R_drew)); exact Kd.R_mono HO283.out (fun _ hk => hk.1.1)⟩, ⟨by (with_reducible repeat (first | apply Kd.R_alloc | apply Kd.R_drewN | apply Kd.R_drew)); exact Kd.R_mono HO286.out (fun _ hk => hk.1.1)⟩, ⟨by repeat (first | (with_reducible first | exact HB.out | apply below_alloc | apply pw_below_drewN | apply below_drew1) | exact HB.out)⟩⟩
              · rw [if_neg c34] at H
                have c34b0 : ((wrap64 (1 + (Go.bits .and .i64 a2 63))) == 64) = false := beq_eq_false_iff_ne.mpr c34
                have c34b1 : ((wrap64 (1 + (Go.bits .and .i64 a2 63))) != 64) = true := bne_iff_ne.mpr c34
                (first | rw [c34b0] | (simp only [i64_w, i32_w]; rw [c34b0]) | skip)
                obtain ⟨ji35, hji35⟩ : ∃ j_ : Int, (IntKind.u64.wrap (wrap64 (1 + (Go.bits .and .i64 a2 63)))) = j_ := ⟨_, rfl⟩
                replace H : (if 0 ≤ (ji35) then (avocetlaw01_LebBack.j0 k a0 a1 t280 (wrap64 (1 + (Go.bits .and .i64 a2 63))) t281 t284 t296 t297 t298 t308 t309 t310 (decide (a0 < (shl .u64 1 (ji35))))) else (none)) = some r := by first | (rw [hji35] at H; exact H) | (simp only [hji35] at H ⊢; exact H)
                by_cases c36 : 0 ≤ (ji35)
                · rw [if_pos c36] at H
                  have c36b0 := eq_true c36
                  have c36b1 : decide (0 ≤ (ji35)) = true := decide_eq_true c36
                  clear c36
                  obtain ⟨ji37, hji37⟩ : ∃ j_ : Int, (shl .u64 1 (ji35)) = j_ := ⟨_, rfl⟩
                  replace H : (avocetlaw01_LebBack.j0 k a0 a1 t280 (wrap64 (1 + (Go.bits .and .i64 a2 63))) t281 t284 t296 t297 t298 t308 t309 t310 (decide (a0 < (ji37)))) = some r := by first | (rw [hji37] at H; exact H) | (simp only [hji37] at H ⊢; exact H)
                  have hji37_ : (IntKind.u64.wrap (1 * 2 ^ min (ji35).toNat 64)) = ji37 := hji37
                  have hji37z : (ji35) ≤ 64 → (IntKind.u64.wrap (1 * 2 ^ (ji35).toNat)) = ji37 := shl_small hji37
                  have hji37u : (IntKind.u64.wrap (2 ^ min (ji35).toNat 64)) = ji37 := by have h_ := hji37_; rw [Int.one_mul] at h_; exact h_
                  have hji37v : (ji35) ≤ 64 → (IntKind.u64.wrap (2 ^ (ji35).toNat)) = ji37 := fun hle_ => by have h_ := hji37z hle_; rw [Int.one_mul] at h_; exact h_
                  have H' := Aside0.mk H
                  clear H
                  go_wp2
                  go_meet
                  case rel => exact ⟨_, (decide (a0 < (ji37))), (by first | rfl | (simp; done) | (simp only [← hji37] <;> (first | rfl | simp)) | (simp [*]; done)), H', ⟨by first | omega | exact Nat.le_refl _⟩, ⟨by (with_reducible repeat (first | apply Kd.R_alloc | apply Kd.R_drewN | apply Kd.R_drew)); exact Kd.R_mono HO283.out (fun _ hk => hk.1.1)⟩, ⟨by (with_reducible repeat (first | apply Kd.R_alloc | apply Kd.R_drewN | apply Kd.R_drew)); exact Kd.R_mono HO286.out (fun _ hk => hk.1.1)⟩, ⟨by repeat (first | (with_reducible first | exact HB.out | apply below_alloc | apply pw_below_drewN | apply below_drew1) | exact HB.out)⟩⟩
                · rw [if_neg c36] at H
                  exact absurd H (by simp)
            case rest =>
              clear HC16
              try clear c1
              try clear c2
              try clear p2
              try clear c3
              try clear c6
              try clear c6b0
              try clear c6b1
              try clear p6
              try clear c9
              try clear c10
              try clear c11
              try clear c13
              try clear c14
              try clear c19
              try clear c21
              try clear c34
              try clear c34b0
              try clear c34b1
              try clear c36
              try clear c36b0
              try clear c36b1
              obtain ⟨kq, x19_15, rfl, HA, HJ15, HO_11, HO_12, HB⟩ := hcut
              cases kq with
              | zero => exact absurd HA.out (by simp [avocetlaw01_LebBack.j0])
              | succ kj15 =>
                have H := HA.out
                clear HA
                simp only [avocetlaw01_LebBack.j0] at H
                have HC38 := Aside0.mk H
                clear H
                go_upto_region 10 with (fail)
                go_cut [20] (fun v20 wc => ∃ (kq : Nat) (x20_37 : Bool), v20 = .bool x20_37 ∧ Aside0 (avocetlaw01_LebBack.j1 kq a0 a1 t280 t281 t284 t296 t297 t298 t308 t309 t310 x19_15 x20_37 = some r) ∧ Aside0 (kq ≤ kj15) ∧ Aside0 (Kd.R (Kd.int .u8) 5 wc w.heap.size (fun k_ => some k_ ≠ ((.slice Ao30 t284.length co30) : Value).ownBlock) (.slice Ao23 t281.length co23) t281) ∧ Aside0 (Kd.R (Kd.int .u8) 5 wc w.heap.size (fun k_ => some k_ ≠ ((.slice Ao23 t281.length co23) : Value).ownBlock) (.slice Ao30 t284.length co30) t284) ∧ Aside0 (Below w.heap.size w wc))
                case first =>
                  have H := HC38.out
                  clear HC38
                  by_cases c39 : (wrap64 (1 + (Go.bits .and .i64 a2 63))) = 64
                  · rw [if_pos c39] at H
                    have c39b0 : ((wrap64 (1 + (Go.bits .and .i64 a2 63))) == 64) = true := beq_iff_eq.mpr c39
                    have c39b1 : ((wrap64 (1 + (Go.bits .and .i64 a2 63))) != 64) = false := bne_eq_false_iff_eq.mpr c39
                    clear c39
                    (first | rw [c39b0] | (simp only [i64_w, i32_w]; rw [c39b0]) | skip)
                    have H' := Aside0.mk H
                    clear H
                    go_wp2
                    go_meet
                    case rel => exact ⟨_, (true), (by first | rfl | (simp; done) | (simp [*]; done)), H', ⟨by have := HJ15.out; first | omega | exact Nat.le_refl _⟩, ⟨by (with_reducible repeat (first | apply Kd.R_alloc | apply Kd.R_drewN | apply Kd.R_drew)); exact HO_11.out⟩, ⟨by (with_reducible repeat (first | apply Kd.R_alloc | apply Kd.R_drewN | apply Kd.R_drew)); exact HO_12.out⟩, ⟨by repeat (first | (with_reducible first | exact HB.out | apply below_alloc | apply pw_below_drewN | apply below_drew1) | exact HB.out)⟩⟩
                  · rw [if_neg c39] at H
                    have c39b0 : ((wrap64 (1 + (Go.bits .and .i64 a2 63))) == 64) = false := beq_eq_false_iff_ne.mpr c39
                    have c39b1 : ((wrap64 (1 + (Go.bits .and .i64 a2 63))) != 64) = true := bne_iff_ne.mpr c39
                    (first | rw [c39b0] | (simp only [i64_w, i32_w]; rw [c39b0]) | skip)
                    obtain ⟨ji40, hji40⟩ : ∃ j_ : Int, (IntKind.u64.wrap (wrap64 ((wrap64 (1 + (Go.bits .and .i64 a2 63))) - 1))) = j_ := ⟨_, rfl⟩
                    replace H : (if 0 ≤ (ji40) then (if a1 ≥ (shl .i64 (-1) (ji40)) then (avocetlaw01_LebBack.j1 kj15 a0 a1 t280 t281 t284 t296 t297 t298 t308 t309 t310 x19_15 (decide (a1 < (shl .i64 1 (ji40))))) else (avocetlaw01_LebBack.j1 kj15 a0 a1 t280 t281 t284 t296 t297 t298 t308 t309 t310 x19_15 false)) else (none)) = some r := by first | (rw [hji40] at H; exact H) | (simp only [hji40] at H ⊢; exact H)
                    by_cases c41 : 0 ≤ (ji40)
                    · rw [if_pos c41] at H
                      have c41b0 := eq_true c41
                      have c41b1 : decide (0 ≤ (ji40)) = true := decide_eq_true c41
                      clear c41
                      obtain ⟨ji42, hji42⟩ : ∃ j_ : Int, (shl .i64 (-1) (ji40)) = j_ := ⟨_, rfl⟩
                      replace H : (if a1 ≥ (ji42) then (avocetlaw01_LebBack.j1 kj15 a0 a1 t280 t281 t284 t296 t297 t298 t308 t309 t310 x19_15 (decide (a1 < (shl .i64 1 (ji40))))) else (avocetlaw01_LebBack.j1 kj15 a0 a1 t280 t281 t284 t296 t297 t298 t308 t309 t310 x19_15 false)) = some r := by first | (rw [hji42] at H; exact H) | (simp only [hji42] at H ⊢; exact H)
                      have hji42_ : (IntKind.i64.wrap ((-1) * 2 ^ min (ji40).toNat 64)) = ji42 := hji42
                      have hji42z : (ji40) ≤ 64 → (IntKind.i64.wrap ((-1) * 2 ^ (ji40).toNat)) = ji42 := shl_small hji42
                      have hji42m : (wrap64 (-2 ^ min (ji40).toNat 64)) = ji42 := by have h_ := hji42_; rw [Int.neg_mul, Int.one_mul] at h_; first | exact h_ | exact (i64_w _).symm.trans h_
                      have hji42m' : (ji40) ≤ 64 → (wrap64 (-2 ^ (ji40).toNat)) = ji42 := fun hle_ => by have h_ := hji42z hle_; rw [Int.neg_mul, Int.one_mul] at h_; first | exact h_ | exact (i64_w _).symm.trans h_
                      have hji42M : (IntKind.i64.wrap (-2 ^ min (ji40).toNat 64)) = ji42 := by have h_ := hji42_; rw [Int.neg_mul, Int.one_mul] at h_; first | exact h_ | exact (i64_w _).symm.trans h_
                      have hji42M' : (ji40) ≤ 64 → (IntKind.i64.wrap (-2 ^ (ji40).toNat)) = ji42 := fun hle_ => by have h_ := hji42z hle_; rw [Int.neg_mul, Int.one_mul] at h_; first | exact h_ | exact (i64_w _).symm.trans h_
                      have hji42y : (wrap64 ((-1) * 2 ^ min (ji40).toNat 64)) = ji42 := (i64_w _).symm.trans hji42_
                      have hji42x : (ji40) ≤ 64 → (wrap64 ((-1) * 2 ^ (ji40).toNat)) = ji42 := fun h_ => (i64_w _).symm.trans (hji42z h_)
                      by_cases c43 : a1 ≥ (ji42)
                      · rw [if_pos c43] at H
                        have c43b0 : decide ((ji42) ≤ a1) = true := decide_eq_true c43
                        clear c43
                        have c44b0 := eq_true (of_decide_eq_true (by first | (with_reducible assumption) | assumption) : 0 ≤ (ji40))
                        obtain ⟨ji45, hji45⟩ : ∃ j_ : Int, (shl .i64 1 (ji40)) = j_ := ⟨_, rfl⟩
                        replace H : (avocetlaw01_LebBack.j1 kj15 a0 a1 t280 t281 t284 t296 t297 t298 t308 t309 t310 x19_15 (decide (a1 < (ji45)))) = some r := by first | (rw [hji45] at H; exact H) | (simp only [hji45] at H ⊢; exact H)
                        have hji45_ : (IntKind.i64.wrap (1 * 2 ^ min (ji40).toNat 64)) = ji45 := hji45
                        have hji45z : (ji40) ≤ 64 → (IntKind.i64.wrap (1 * 2 ^ (ji40).toNat)) = ji45 := shl_small hji45
                        have hji45u : (IntKind.i64.wrap (2 ^ min (ji40).toNat 64)) = ji45 := by have h_ := hji45_; rw [Int.one_mul] at h_; exact h_
                        have hji45v : (ji40) ≤ 64 → (IntKind.i64.wrap (2 ^ (ji40).toNat)) = ji45 := fun hle_ => by have h_ := hji45z hle_; rw [Int.one_mul] at h_; exact h_
                        have hji45m : (wrap64 (2 ^ min (ji40).toNat 64)) = ji45 := by have h_ := hji45_; rw [Int.one_mul] at h_; first | exact h_ | exact (i64_w _).symm.trans h_
                        have hji45m' : (ji40) ≤ 64 → (wrap64 (2 ^ (ji40).toNat)) = ji45 := fun hle_ => by have h_ := hji45z hle_; rw [Int.one_mul] at h_; first | exact h_ | exact (i64_w _).symm.trans h_
                        have hji45M : (IntKind.i64.wrap (2 ^ min (ji40).toNat 64)) = ji45 := by have h_ := hji45_; rw [Int.one_mul] at h_; first | exact h_ | exact (i64_w _).symm.trans h_
                        have hji45M' : (ji40) ≤ 64 → (IntKind.i64.wrap (2 ^ (ji40).toNat)) = ji45 := fun hle_ => by have h_ := hji45z hle_; rw [Int.one_mul] at h_; first | exact h_ | exact (i64_w _).symm.trans h_
                        have hji45y : (wrap64 (1 * 2 ^ min (ji40).toNat 64)) = ji45 := (i64_w _).symm.trans hji45_
                        have hji45x : (ji40) ≤ 64 → (wrap64 (1 * 2 ^ (ji40).toNat)) = ji45 := fun h_ => (i64_w _).symm.trans (hji45z h_)
                        have H' := Aside0.mk H
                        clear H
                        go_wp2
                        go_meet
                        case rel => exact ⟨_, (decide (a1 < (ji45))), (by first | rfl | (simp; done) | (simp only [← hji45] <;> (first | rfl | simp)) | (simp [*]; done)), H', ⟨by have := HJ15.out; first | omega | exact Nat.le_refl _⟩, ⟨by (with_reducible repeat (first | apply Kd.R_alloc | apply Kd.R_drewN | apply Kd.R_drew)); exact HO_11.out⟩, ⟨by (with_reducible repeat (first | apply Kd.R_alloc | apply Kd.R_drewN | apply Kd.R_drew)); exact HO_12.out⟩, ⟨by repeat (first | (with_reducible first | exact HB.out | apply below_alloc | apply pw_below_drewN | apply below_drew1) | exact HB.out)⟩⟩
                      · rw [if_neg c43] at H
                        have c43b0 : decide ((ji42) ≤ a1) = false := decide_eq_false c43
                        clear c43
                        have H' := Aside0.mk H
                        clear H
                        go_wp2
                        go_meet
                        case rel => exact ⟨_, (false), (by first | rfl | (simp; done) | (simp [*]; done)), H', ⟨by have := HJ15.out; first | omega | exact Nat.le_refl _⟩, ⟨by (with_reducible repeat (first | apply Kd.R_alloc | apply Kd.R_drewN | apply Kd.R_drew)); exact HO_11.out⟩, ⟨by (with_reducible repeat (first | apply Kd.R_alloc | apply Kd.R_drewN | apply Kd.R_drew)); exact HO_12.out⟩, ⟨by repeat (first | (with_reducible first | exact HB.out | apply below_alloc | apply pw_below_drewN | apply below_drew1) | exact HB.out)⟩⟩
                    · rw [if_neg c41] at H
                      exact absurd H (by simp)
                case rest =>
                  clear HC38
                  try clear c1
                  try clear c2
                  try clear p2
                  try clear c3
                  try clear c4
                  try clear c6
                  try clear c6b0
                  try clear c6b1
                  try clear p6
                  try clear c9
                  try clear c10
                  try clear c11
                  try clear c13
                  try clear c14
                  try clear c19
                  try clear c21
                  try clear c34
                  try clear c34b0
                  try clear c34b1
                  try clear c36
                  try clear c36b0
                  try clear c36b1
                  try clear c39
                  try clear c39b0
                  try clear c39b1
                  try clear c41
                  try clear c41b0
                  try clear c41b1
                  try clear c43
                  try clear c43b0
                  try clear c44
                  try clear c44b0
                  try clear p2
                  try clear p6
                  obtain ⟨kq, x20_37, rfl, HA, HJ37, HO_11, HO_12, HB⟩ := hcut
                  cases kq with
                  | zero => exact absurd HA.out (by simp [avocetlaw01_LebBack.j1])
                  | succ kj37 =>
                    have H := HA.out
                    clear HA
                    simp only [avocetlaw01_LebBack.j1] at H
                    have HC46 := Aside0.mk H
                    clear H
                    go_upto_region 11 with (fail)
                    go_cut [125] (fun v125 wc => ∃ (kq : Nat) (x125_45 : Bool), v125 = .bool x125_45 ∧ Aside0 (avocetlaw01_LebBack.j2 kq a0 a1 t280 t281 t284 x125_45 = some r) ∧ Aside0 (kq ≤ kj37) ∧ Aside0 (Kd.R (Kd.int .u8) 5 wc w.heap.size (fun k_ => some k_ ≠ ((.slice Ao30 t284.length co30) : Value).ownBlock) (.slice Ao23 t281.length co23) t281) ∧ Aside0 (Kd.R (Kd.int .u8) 5 wc w.heap.size (fun k_ => some k_ ≠ ((.slice Ao23 t281.length co23) : Value).ownBlock) (.slice Ao30 t284.length co30) t284) ∧ Aside0 (Below w.heap.size w wc))
                    case first =>
                      have H := HC46.out
                      clear HC46
                      by_cases c47 : ((t298 == 0) != x19_15) = true
                      · rw [if_pos c47] at H
                        have c47b0 : ((t298 == 0) != x19_15) = true := c47
                        (try (have c47b1 : decide ((t298 == 0) = x19_15) = false := by simpa using c47))
                        (try (have c47b2 : ((t298 == 0) == x19_15) = false := by simpa using c47))
                        (try (have c47b3 : ¬ ((t298 == 0) = x19_15) := by simpa using c47))
                        clear c47
                        (first | rw [c47b0] | (simp only [i64_w, i32_w]; rw [c47b0]) | skip)
                        have H' := Aside0.mk H
                        clear H
                        go_wp2
                        go_meet
                        case rel => exact ⟨_, (true), (by first | rfl | (simp; done) | (simp [*]; done)), H', ⟨by have := HJ15.out; have := HJ37.out; first | omega | exact Nat.le_refl _⟩, ⟨by (with_reducible repeat (first | apply Kd.R_alloc | apply Kd.R_drewN | apply Kd.R_drew)); exact HO_11.out⟩, ⟨by (with_reducible repeat (first | apply Kd.R_alloc | apply Kd.R_drewN | apply Kd.R_drew)); exact HO_12.out⟩, ⟨by repeat (first | (with_reducible first | exact HB.out | apply below_alloc | apply pw_below_drewN | apply below_drew1) | exact HB.out)⟩⟩
                      · rw [if_neg c47] at H
                        have c47b0 : ((t298 == 0) != x19_15) = false := by simpa using c47
                        (try (have c47b1 : decide ((t298 == 0) = x19_15) = true := by simpa using c47))
                        (try (have c47b2 : ((t298 == 0) == x19_15) = true := by simpa using c47))
                        clear c47
                        (first | rw [c47b0] | (simp only [i64_w, i32_w]; rw [c47b0]) | skip)
                        by_cases c48 : x19_15 = true
                        · subst c48
                          have H1 : (if t296 = a0 then (if t297 = (t281.length : Int) then (if ((t310 == 0) != x20_37) = true then (avocetlaw01_LebBack.j2 kj37 a0 a1 t280 t281 t284 true) else (if x20_37 = true then (if t308 = a1 then (avocetlaw01_LebBack.j2 kj37 a0 a1 t280 t281 t284 (t309 != (t284.length : Int))) else (avocetlaw01_LebBack.j2 kj37 a0 a1 t280 t281 t284 true)) else (avocetlaw01_LebBack.j2 kj37 a0 a1 t280 t281 t284 false))) else (avocetlaw01_LebBack.j2 kj37 a0 a1 t280 t281 t284 true)) else (avocetlaw01_LebBack.j2 kj37 a0 a1 t280 t281 t284 true)) = some r := by rw [if_pos rfl] at H; exact H
                          clear H
                          have H := H1
                          clear H1
                          by_cases c49 : t296 = a0
                          · rw [if_pos c49] at H
                            have c49b0 : (t296 == a0) = true := beq_iff_eq.mpr c49
                            have c49b1 : (t296 != a0) = false := bne_eq_false_iff_eq.mpr c49
                            clear c49
                            by_cases c50 : t297 = (t281.length : Int)
                            · rw [if_pos c50] at H
                              have c50b0 : (t297 == (t281.length : Int)) = true := beq_iff_eq.mpr c50
                              have c50b1 : (t297 != (t281.length : Int)) = false := bne_eq_false_iff_eq.mpr c50
                              clear c50
                              by_cases c51 : ((t310 == 0) != x20_37) = true
                              · rw [if_pos c51] at H
                                have c51b0 : ((t310 == 0) != x20_37) = true := c51
                                (try (have c51b1 : decide ((t310 == 0) = x20_37) = false := by simpa using c51))
                                (try (have c51b2 : ((t310 == 0) == x20_37) = false := by simpa using c51))
                                (try (have c51b3 : ¬ ((t310 == 0) = x20_37) := by simpa using c51))
                                clear c51
                                have H' := Aside0.mk H
                                clear H
                                go_wp2
                                go_meet
                                case rel => exact ⟨_, (true), (by first | rfl | (simp; done) | (simp [*]; done)), H', ⟨by have := HJ15.out; have := HJ37.out; first | omega | exact Nat.le_refl _⟩, ⟨by (with_reducible repeat (first | apply Kd.R_alloc | apply Kd.R_drewN | apply Kd.R_drew)); exact HO_11.out⟩, ⟨by (with_reducible repeat (first | apply Kd.R_alloc | apply Kd.R_drewN | apply Kd.R_drew)); exact HO_12.out⟩, ⟨by repeat (first | (with_reducible first | exact HB.out | apply below_alloc | apply pw_below_drewN | apply below_drew1) | exact HB.out)⟩⟩
                              · rw [if_neg c51] at H
                                have c51b0 : ((t310 == 0) != x20_37) = false := by simpa using c51
                                (try (have c51b1 : decide ((t310 == 0) = x20_37) = true := by simpa using c51))
                                (try (have c51b2 : ((t310 == 0) == x20_37) = true := by simpa using c51))
                                clear c51
                                by_cases c52 : x20_37 = true
                                · subst c52
                                  have H1 : (if t308 = a1 then (avocetlaw01_LebBack.j2 kj37 a0 a1 t280 t281 t284 (t309 != (t284.length : Int))) else (avocetlaw01_LebBack.j2 kj37 a0 a1 t280 t281 t284 true)) = some r := by rw [if_pos rfl] at H; exact H
                                  clear H
                                  have H := H1
                                  clear H1
                                  by_cases c53 : t308 = a1
                                  · rw [if_pos c53] at H
                                    have c53b0 : (t308 == a1) = true := beq_iff_eq.mpr c53
                                    have c53b1 : (t308 != a1) = false := bne_eq_false_iff_eq.mpr c53
                                    clear c53
                                    have H' := Aside0.mk H
                                    clear H
                                    go_wp2
                                    go_meet
                                    case rel => exact ⟨_, ((t309 != (t284.length : Int))), (by first | rfl | (simp; done) | (simp [*]; done)), H', ⟨by have := HJ15.out; have := HJ37.out; first | omega | exact Nat.le_refl _⟩, ⟨by (with_reducible repeat (first | apply Kd.R_alloc | apply Kd.R_drewN | apply Kd.R_drew)); exact HO_11.out⟩, ⟨by (with_reducible repeat (first | apply Kd.R_alloc | apply Kd.R_drewN | apply Kd.R_drew)); exact HO_12.out⟩, ⟨by repeat (first | (with_reducible first | exact HB.out | apply below_alloc | apply pw_below_drewN | apply below_drew1) | exact HB.out)⟩⟩
                                  · rw [if_neg c53] at H
                                    have c53b0 : (t308 == a1) = false := beq_eq_false_iff_ne.mpr c53
                                    have c53b1 : (t308 != a1) = true := bne_iff_ne.mpr c53
                                    have H' := Aside0.mk H
                                    clear H
                                    go_wp2
                                    go_meet
                                    case rel => exact ⟨_, (true), (by first | rfl | (simp; done) | (simp [*]; done)), H', ⟨by have := HJ15.out; have := HJ37.out; first | omega | exact Nat.le_refl _⟩, ⟨by (with_reducible repeat (first | apply Kd.R_alloc | apply Kd.R_drewN | apply Kd.R_drew)); exact HO_11.out⟩, ⟨by (with_reducible repeat (first | apply Kd.R_alloc | apply Kd.R_drewN | apply Kd.R_drew)); exact HO_12.out⟩, ⟨by repeat (first | (with_reducible first | exact HB.out | apply below_alloc | apply pw_below_drewN | apply below_drew1) | exact HB.out)⟩⟩
                                · replace c52 := Bool.eq_false_iff.mpr c52
                                  subst c52
                                  have H1 : (avocetlaw01_LebBack.j2 kj37 a0 a1 t280 t281 t284 false) = some r := by rw [if_neg (show ¬ (false = true) by decide)] at H; exact H
                                  clear H
                                  have H := H1
                                  clear H1
                                  have H' := Aside0.mk H
                                  clear H
                                  go_wp2
                                  go_meet
                                  case rel => exact ⟨_, (false), (by first | rfl | (simp; done) | (simp [*]; done)), H', ⟨by have := HJ15.out; have := HJ37.out; first | omega | exact Nat.le_refl _⟩, ⟨by (with_reducible repeat (first | apply Kd.R_alloc | apply Kd.R_drewN | apply Kd.R_drew)); exact HO_11.out⟩, ⟨by (with_reducible repeat (first | apply Kd.R_alloc | apply Kd.R_drewN | apply Kd.R_drew)); exact HO_12.out⟩, ⟨by repeat (first | (with_reducible first | exact HB.out | apply below_alloc | apply pw_below_drewN | apply below_drew1) | exact HB.out)⟩⟩
                            · rw [if_neg c50] at H
                              have c50b0 : (t297 == (t281.length : Int)) = false := beq_eq_false_iff_ne.mpr c50
                              have c50b1 : (t297 != (t281.length : Int)) = true := bne_iff_ne.mpr c50
                              have H' := Aside0.mk H
                              clear H
                              go_wp2
                              go_meet
                              case rel => exact ⟨_, (true), (by first | rfl | (simp; done) | (simp [*]; done)), H', ⟨by have := HJ15.out; have := HJ37.out; first | omega | exact Nat.le_refl _⟩, ⟨by (with_reducible repeat (first | apply Kd.R_alloc | apply Kd.R_drewN | apply Kd.R_drew)); exact HO_11.out⟩, ⟨by (with_reducible repeat (first | apply Kd.R_alloc | apply Kd.R_drewN | apply Kd.R_drew)); exact HO_12.out⟩, ⟨by repeat (first | (with_reducible first | exact HB.out | apply below_alloc | apply pw_below_drewN | apply below_drew1) | exact HB.out)⟩⟩
                          · rw [if_neg c49] at H
                            have c49b0 : (t296 == a0) = false := beq_eq_false_iff_ne.mpr c49
                            have c49b1 : (t296 != a0) = true := bne_iff_ne.mpr c49
                            have H' := Aside0.mk H
                            clear H
                            go_wp2
                            go_meet
                            case rel => exact ⟨_, (true), (by first | rfl | (simp; done) | (simp [*]; done)), H', ⟨by have := HJ15.out; have := HJ37.out; first | omega | exact Nat.le_refl _⟩, ⟨by (with_reducible repeat (first | apply Kd.R_alloc | apply Kd.R_drewN | apply Kd.R_drew)); exact HO_11.out⟩, ⟨by (with_reducible repeat (first | apply Kd.R_alloc | apply Kd.R_drewN | apply Kd.R_drew)); exact HO_12.out⟩, ⟨by repeat (first | (with_reducible first | exact HB.out | apply below_alloc | apply pw_below_drewN | apply below_drew1) | exact HB.out)⟩⟩
                        · replace c48 := Bool.eq_false_iff.mpr c48
                          subst c48
                          have H1 : (if ((t310 == 0) != x20_37) = true then (avocetlaw01_LebBack.j2 kj37 a0 a1 t280 t281 t284 true) else (if x20_37 = true then (if t308 = a1 then (avocetlaw01_LebBack.j2 kj37 a0 a1 t280 t281 t284 (t309 != (t284.length : Int))) else (avocetlaw01_LebBack.j2 kj37 a0 a1 t280 t281 t284 true)) else (avocetlaw01_LebBack.j2 kj37 a0 a1 t280 t281 t284 false))) = some r := by rw [if_neg (show ¬ (false = true) by decide)] at H; exact H
                          clear H
                          have H := H1
                          clear H1
                          by_cases c54 : ((t310 == 0) != x20_37) = true
                          · rw [if_pos c54] at H
                            have c54b0 : ((t310 == 0) != x20_37) = true := c54
                            (try (have c54b1 : decide ((t310 == 0) = x20_37) = false := by simpa using c54))
                            (try (have c54b2 : ((t310 == 0) == x20_37) = false := by simpa using c54))
                            (try (have c54b3 : ¬ ((t310 == 0) = x20_37) := by simpa using c54))
                            clear c54
                            have H' := Aside0.mk H
                            clear H
                            go_wp2
                            go_meet
                            case rel => exact ⟨_, (true), (by first | rfl | (simp; done) | (simp [*]; done)), H', ⟨by have := HJ15.out; have := HJ37.out; first | omega | exact Nat.le_refl _⟩, ⟨by (with_reducible repeat (first | apply Kd.R_alloc | apply Kd.R_drewN | apply Kd.R_drew)); exact HO_11.out⟩, ⟨by (with_reducible repeat (first | apply Kd.R_alloc | apply Kd.R_drewN | apply Kd.R_drew)); exact HO_12.out⟩, ⟨by repeat (first | (with_reducible first | exact HB.out | apply below_alloc | apply pw_below_drewN | apply below_drew1) | exact HB.out)⟩⟩
                          · rw [if_neg c54] at H
                            have c54b0 : ((t310 == 0) != x20_37) = false := by simpa using c54
                            (try (have c54b1 : decide ((t310 == 0) = x20_37) = true := by simpa using c54))
                            (try (have c54b2 : ((t310 == 0) == x20_37) = true := by simpa using c54))
                            clear c54
                            by_cases c55 : x20_37 = true
                            · subst c55
                              have H1 : (if t308 = a1 then (avocetlaw01_LebBack.j2 kj37 a0 a1 t280 t281 t284 (t309 != (t284.length : Int))) else (avocetlaw01_LebBack.j2 kj37 a0 a1 t280 t281 t284 true)) = some r := by rw [if_pos rfl] at H; exact H
                              clear H
                              have H := H1
                              clear H1
                              by_cases c56 : t308 = a1
                              · rw [if_pos c56] at H
                                have c56b0 : (t308 == a1) = true := beq_iff_eq.mpr c56
                                have c56b1 : (t308 != a1) = false := bne_eq_false_iff_eq.mpr c56
                                clear c56
                                have H' := Aside0.mk H
                                clear H
                                go_wp2
                                go_meet
                                case rel => exact ⟨_, ((t309 != (t284.length : Int))), (by first | rfl | (simp; done) | (simp [*]; done)), H', ⟨by have := HJ15.out; have := HJ37.out; first | omega | exact Nat.le_refl _⟩, ⟨by (with_reducible repeat (first | apply Kd.R_alloc | apply Kd.R_drewN | apply Kd.R_drew)); exact HO_11.out⟩, ⟨by (with_reducible repeat (first | apply Kd.R_alloc | apply Kd.R_drewN | apply Kd.R_drew)); exact HO_12.out⟩, ⟨by repeat (first | (with_reducible first | exact HB.out | apply below_alloc | apply pw_below_drewN | apply below_drew1) | exact HB.out)⟩⟩
                              · rw [if_neg c56] at H
                                have c56b0 : (t308 == a1) = false := beq_eq_false_iff_ne.mpr c56
                                have c56b1 : (t308 != a1) = true := bne_iff_ne.mpr c56
                                have H' := Aside0.mk H
                                clear H
                                go_wp2
                                go_meet
                                case rel => exact ⟨_, (true), (by first | rfl | (simp; done) | (simp [*]; done)), H', ⟨by have := HJ15.out; have := HJ37.out; first | omega | exact Nat.le_refl _⟩, ⟨by (with_reducible repeat (first | apply Kd.R_alloc | apply Kd.R_drewN | apply Kd.R_drew)); exact HO_11.out⟩, ⟨by (with_reducible repeat (first | apply Kd.R_alloc | apply Kd.R_drewN | apply Kd.R_drew)); exact HO_12.out⟩, ⟨by repeat (first | (with_reducible first | exact HB.out | apply below_alloc | apply pw_below_drewN | apply below_drew1) | exact HB.out)⟩⟩
                            · replace c55 := Bool.eq_false_iff.mpr c55
                              subst c55
                              have H1 : (avocetlaw01_LebBack.j2 kj37 a0 a1 t280 t281 t284 false) = some r := by rw [if_neg (show ¬ (false = true) by decide)] at H; exact H
                              clear H
                              have H := H1
                              clear H1
                              have H' := Aside0.mk H
                              clear H
                              go_wp2
                              go_meet
                              case rel => exact ⟨_, (false), (by first | rfl | (simp; done) | (simp [*]; done)), H', ⟨by have := HJ15.out; have := HJ37.out; first | omega | exact Nat.le_refl _⟩, ⟨by (with_reducible repeat (first | apply Kd.R_alloc | apply Kd.R_drewN | apply Kd.R_drew)); exact HO_11.out⟩, ⟨by (with_reducible repeat (first | apply Kd.R_alloc | apply Kd.R_drewN | apply Kd.R_drew)); exact HO_12.out⟩, ⟨by repeat (first | (with_reducible first | exact HB.out | apply below_alloc | apply pw_below_drewN | apply below_drew1) | exact HB.out)⟩⟩
                    case rest =>
                      clear HC46
                      try clear c1
                      try clear c2
                      try clear p2
                      try clear c3
                      try clear c4
                      try clear c5
                      try clear c6
                      try clear c6b0
                      try clear c6b1
                      try clear p6
                      try clear c9
                      try clear c10
                      try clear c11
                      try clear c13
                      try clear c14
                      try clear c19
                      try clear c21
                      try clear c34
                      try clear c34b0
                      try clear c34b1
                      try clear c36
                      try clear c36b0
                      try clear c36b1
                      try clear c39
                      try clear c39b0
                      try clear c39b1
                      try clear c41
                      try clear c41b0
                      try clear c41b1
                      try clear c43
                      try clear c43b0
                      try clear c44
                      try clear c44b0
                      try clear c47
                      try clear c47b0
                      try clear c47b1
                      try clear c47b2
                      try clear c48
                      try clear c49
                      try clear c49b0
                      try clear c49b1
                      try clear c50
                      try clear c50b0
                      try clear c50b1
                      try clear c51
                      try clear c51b0
                      try clear c51b1
                      try clear c51b2
                      try clear c52
                      try clear c53
                      try clear c53b0
                      try clear c53b1
                      try clear c54
                      try clear c54b0
                      try clear c54b1
                      try clear c54b2
                      try clear c55
                      try clear c56
                      try clear c56b0
                      try clear c56b1
                      try clear p2
                      try clear p6
                      obtain ⟨kq, x125_45, rfl, HA, HJ45, HO_11, HO_12, HB⟩ := hcut
                      cases kq with
                      | zero => exact absurd HA.out (by simp [avocetlaw01_LebBack.j2])
                      | succ kj45 =>
                        have H := HA.out
                        clear HA
                        simp only [avocetlaw01_LebBack.j2] at H
                        by_cases c57 : x125_45 = true
                        · subst c57
                          have H1 : (some false) = some r := by rw [if_pos rfl] at H; exact H
                          clear H
                          have H := H1
                          clear H1
                          obtain rfl := Option.some.inj H
                          go_wp2
                          go_ret
                          exact ⟨by first | rfl | (simp [errW_none, errW_some] <;> rfl) | (simp [*, errW_none, errW_some] <;> rfl), by repeat (first | (with_reducible first | exact HB.out | apply below_alloc | apply pw_below_drewN | apply below_drew1) | exact HB.out)⟩
                        · replace c57 := Bool.eq_false_iff.mpr c57
                          subst c57
                          have H1 : (if 0 ≤ (mx 0 (wrap64 ((t281.length : Int) - 1))) then (if (mx 0 (wrap64 ((t281.length : Int) - 1))) ≤ (t281.length : Int) then ((leb_ReadU.f (t281.take ((mx 0 (wrap64 ((t281.length : Int) - 1))) : Int).toNat) 0 64).bind fun bt315 => (if 0 ≤ (mx 0 (wrap64 ((t284.length : Int) - 1))) then (if (mx 0 (wrap64 ((t284.length : Int) - 1))) ≤ (t284.length : Int) then ((leb_ReadS.f kj45 (t284.take ((mx 0 (wrap64 ((t284.length : Int) - 1))) : Int).toNat) 0 64).bind fun bt322 => (if t280 = true then (if bt315.2.2 = 2 then (if bt322.2.2 = 2 then ((leb_LenU.f a0).bind fun t325 => (if (t281.length : Int) = t325 then ((leb_LenS.f a1).bind fun t326 => (some ((t284.length : Int) == t326))) else (some false))) else (some false)) else (some false)) else (some false))) else (none)) else (none))) else (none)) else (none)) = some r := by rw [if_neg (show ¬ (false = true) by decide)] at H; exact H
                          clear H
                          have H := H1
                          clear H1
                          obtain ⟨ji58, hji58⟩ : ∃ j_ : Int, (mx 0 (wrap64 ((t281.length : Int) - 1))) = j_ := ⟨_, rfl⟩
                          replace H : (if 0 ≤ (ji58) then (if (ji58) ≤ (t281.length : Int) then ((leb_ReadU.f (t281.take ((ji58) : Int).toNat) 0 64).bind fun bt315 => (if 0 ≤ (mx 0 (wrap64 ((t284.length : Int) - 1))) then (if (mx 0 (wrap64 ((t284.length : Int) - 1))) ≤ (t284.length : Int) then ((leb_ReadS.f kj45 (t284.take ((mx 0 (wrap64 ((t284.length : Int) - 1))) : Int).toNat) 0 64).bind fun bt322 => (if t280 = true then (if bt315.2.2 = 2 then (if bt322.2.2 = 2 then ((leb_LenU.f a0).bind fun t325 => (if (t281.length : Int) = t325 then ((leb_LenS.f a1).bind fun t326 => (some ((t284.length : Int) == t326))) else (some false))) else (some false)) else (some false)) else (some false))) else (none)) else (none))) else (none)) else (none)) = some r := by first | (rw [hji58] at H; exact H) | (simp only [hji58] at H ⊢; exact H)
                          have hji58_ : (if 0 < (wrap64 ((t281.length : Int) - 1)) then (wrap64 ((t281.length : Int) - 1)) else 0) = ji58 := hji58
                          by_cases c59 : 0 ≤ (ji58)
                          · rw [if_pos c59] at H
                            have c59b0 := eq_true c59
                            have c59b1 : decide (0 ≤ (ji58)) = true := decide_eq_true c59
                            clear c59
                            by_cases c60 : (ji58) ≤ (t281.length : Int)
                            · rw [if_pos c60] at H
                              have c60b0 := eq_true c60
                              have c60b1 : decide ((ji58) ≤ (t281.length : Int)) = true := decide_eq_true c60
                              clear c60
                              obtain ⟨y311, hy311⟩ : ∃ y_ : List Int, y_ = (t281.take ((ji58) : Int).toNat) := ⟨_, rfl⟩
                              replace H : ((leb_ReadU.f y311 0 64).bind fun bt315 => (if 0 ≤ (mx 0 (wrap64 ((t284.length : Int) - 1))) then (if (mx 0 (wrap64 ((t284.length : Int) - 1))) ≤ (t284.length : Int) then ((leb_ReadS.f kj45 (t284.take ((mx 0 (wrap64 ((t284.length : Int) - 1))) : Int).toNat) 0 64).bind fun bt322 => (if t280 = true then (if bt315.2.2 = 2 then (if bt322.2.2 = 2 then ((leb_LenU.f a0).bind fun t325 => (if (t281.length : Int) = t325 then ((leb_LenS.f a1).bind fun t326 => (some ((t284.length : Int) == t326))) else (some false))) else (some false)) else (some false)) else (some false))) else (none)) else (none))) = some r := by first | (rw [hy311]; with_reducible exact H) | (have H2_ := (Option.bind_some _ _).symm.trans H; rw [hy311]; with_reducible exact H2_) | (have H2_ := (Option.bind_some _ _).symm.trans H; with_reducible exact H2_) | with_reducible exact H | (rw [hy311]; exact H) | exact H
                              have Ny311 := Aside0.mk hy311
                              clear hy311
                              replace H := Option.bind_eq_some_iff.mp H
                              obtain ⟨⟨t315, t316, t317⟩, A610, H⟩ := H
                              replace H : (if 0 ≤ (mx 0 (wrap64 ((t284.length : Int) - 1))) then (if (mx 0 (wrap64 ((t284.length : Int) - 1))) ≤ (t284.length : Int) then ((leb_ReadS.f kj45 (t284.take ((mx 0 (wrap64 ((t284.length : Int) - 1))) : Int).toNat) 0 64).bind fun bt322 => (if t280 = true then (if t317 = 2 then (if bt322.2.2 = 2 then ((leb_LenU.f a0).bind fun t325 => (if (t281.length : Int) = t325 then ((leb_LenS.f a1).bind fun t326 => (some ((t284.length : Int) == t326))) else (some false))) else (some false)) else (some false)) else (some false))) else (none)) else (none)) = some r := H
                              have A61 := Aside0.mk A610
                              clear A610
                              obtain ⟨ji62, hji62⟩ : ∃ j_ : Int, (mx 0 (wrap64 ((t284.length : Int) - 1))) = j_ := ⟨_, rfl⟩
                              replace H : (if 0 ≤ (ji62) then (if (ji62) ≤ (t284.length : Int) then ((leb_ReadS.f kj45 (t284.take ((ji62) : Int).toNat) 0 64).bind fun bt322 => (if t280 = true then (if t317 = 2 then (if bt322.2.2 = 2 then ((leb_LenU.f a0).bind fun t325 => (if (t281.length : Int) = t325 then ((leb_LenS.f a1).bind fun t326 => (some ((t284.length : Int) == t326))) else (some false))) else (some false)) else (some false)) else (some false))) else (none)) else (none)) = some r := by first | (rw [hji62] at H; exact H) | (simp only [hji62] at H ⊢; exact H)
                              (try rw [hji62] at A61)
                              have hji62_ : (if 0 < (wrap64 ((t284.length : Int) - 1)) then (wrap64 ((t284.length : Int) - 1)) else 0) = ji62 := hji62
                              by_cases c63 : 0 ≤ (ji62)
                              · rw [if_pos c63] at H
                                have c63b0 := eq_true c63
                                have c63b1 : decide (0 ≤ (ji62)) = true := decide_eq_true c63
                                clear c63
                                by_cases c64 : (ji62) ≤ (t284.length : Int)
                                · rw [if_pos c64] at H
                                  have c64b0 := eq_true c64
                                  have c64b1 : decide ((ji62) ≤ (t284.length : Int)) = true := decide_eq_true c64
                                  clear c64
                                  obtain ⟨y318, hy318⟩ : ∃ y_ : List Int, y_ = (t284.take ((ji62) : Int).toNat) := ⟨_, rfl⟩
                                  replace H : ((leb_ReadS.f kj45 y318 0 64).bind fun bt322 => (if t280 = true then (if t317 = 2 then (if bt322.2.2 = 2 then ((leb_LenU.f a0).bind fun t325 => (if (t281.length : Int) = t325 then ((leb_LenS.f a1).bind fun t326 => (some ((t284.length : Int) == t326))) else (some false))) else (some false)) else (some false)) else (some false))) = some r := by first | (rw [hy318]; with_reducible exact H) | (have H2_ := (Option.bind_some _ _).symm.trans H; rw [hy318]; with_reducible exact H2_) | (have H2_ := (Option.bind_some _ _).symm.trans H; with_reducible exact H2_) | with_reducible exact H | (rw [hy318]; exact H) | exact H
                                  have Ny318 := Aside0.mk hy318
                                  clear hy318
                                  replace H := Option.bind_eq_some_iff.mp H
                                  obtain ⟨⟨t322, t323, t324⟩, A650, H⟩ := H
                                  replace H : (if t280 = true then (if t317 = 2 then (if t324 = 2 then ((leb_LenU.f a0).bind fun t325 => (if (t281.length : Int) = t325 then ((leb_LenS.f a1).bind fun t326 => (some ((t284.length : Int) == t326))) else (some false))) else (some false)) else (some false)) else (some false)) = some r := H
                                  have A65 := Aside0.mk A650
                                  clear A650
                                  by_cases c66 : t280 = true
                                  · subst c66
                                    have H1 : (if t317 = 2 then (if t324 = 2 then ((leb_LenU.f a0).bind fun t325 => (if (t281.length : Int) = t325 then ((leb_LenS.f a1).bind fun t326 => (some ((t284.length : Int) == t326))) else (some false))) else (some false)) else (some false)) = some r := by rw [if_pos rfl] at H; exact H
                                    clear H
                                    have H := H1
                                    clear H1
                                    by_cases c67 : t317 = 2
                                    · rw [if_pos c67] at H
                                      have c67b0 : (t317 == 2) = true := beq_iff_eq.mpr c67
                                      have c67b1 : (t317 != 2) = false := bne_eq_false_iff_eq.mpr c67
                                      clear c67
                                      by_cases c68 : t324 = 2
                                      · rw [if_pos c68] at H
                                        have c68b0 : (t324 == 2) = true := beq_iff_eq.mpr c68
                                        have c68b1 : (t324 != 2) = false := bne_eq_false_iff_eq.mpr c68
                                        clear c68
                                        replace H := Option.bind_eq_some_iff.mp H
                                        obtain ⟨t325, A690, H⟩ := H
                                        replace H : (if (t281.length : Int) = t325 then ((leb_LenS.f a1).bind fun t326 => (some ((t284.length : Int) == t326))) else (some false)) = some r := H
                                        have A69 := Aside0.mk A690
                                        clear A690
                                        by_cases c70 : (t281.length : Int) = t325
                                        · rw [if_pos c70] at H
                                          have c70b0 : ((t281.length : Int) == t325) = true := beq_iff_eq.mpr c70
                                          have c70b1 : ((t281.length : Int) != t325) = false := bne_eq_false_iff_eq.mpr c70
                                          clear c70
                                          replace H := Option.bind_eq_some_iff.mp H
                                          obtain ⟨t326, A710, H⟩ := H
                                          replace H : (some ((t284.length : Int) == t326)) = some r := H
                                          have A71 := Aside0.mk A710
                                          clear A710
                                          obtain rfl := Option.some.inj H
                                          have q72 : ((ji58) : Int) ≤ ((t281.length : Int) : Int) := of_decide_eq_true (by first | (with_reducible assumption) | assumption)
                                          obtain ⟨i072, hi072, _, hsz72, _⟩ := info_parts info5
                                          have hroom72 : t281.length ≤ co23 := (Kd.R_reads' HO_11.out).2.1
                                          have hC72 : Kd.C (Kd.int .u8) _ Ao23 t281.length t281 := (Kd.R_reads' HO_11.out).2.2
                                          have hcut72 := cut_to (P := Try.prog) 22 5 .i64 Try.underlying22 hi072 Ao23 t281.length co23 (ji58) (of_decide_eq_true (by first | (with_reducible assumption) | assumption)) q72 hroom72
                                          have hr72 := Kd.C_take (m := ((ji58) : Int).toNat) hC72 (by omega)
                                          have hy72 : y311.length = ((ji58) : Int).toNat := (by rw [Ny311.out, List.length_take]; omega)
                                          rw [← Ny311.out] at hr72
                                          rw [← hy72] at hcut72
                                          have HR314 := Aside0.mk hr72
                                          have HC314 := Aside0.mk (show y311.length ≤ co23 from by omega)
                                          clear hr72 hC72 hroom72 hi072 hsz72
                                          have KY72 := Aside0.mk hy72
                                          clear hy72
                                          have KL72 := Aside0.mk (show ((ji58) : Int).toNat ≤ t281.length from by omega)
                                          replace q72 := eq_true q72
                                          go_wp2_with (first | ((with_reducible refine gate_callee (f := 19) rfl ?_); refine goesL_ (some 133) rfl rfl Try.func19 (by kernel_rfl) rfl #[.slice Ao23 y311.length co23, .int .i64 0, .int .i64 64] rfl (by (try simp only [List.map_toArray, List.map_cons, List.map_nil]); first | done | rfl | (simp only [List.length_drop, List.length_take]; rfl)) ?_; (with_reducible refine (leb_ReadU.calls _ _ y311 0 64 t315 t316 t317 _ ?side1 ?side2 A61.out).mono ?_); (case side1 => repeat (first | exact (by repeat (first | (with_reducible exact HR314.out) | (with_reducible refine Kd.C_alloc ?_ _) | (with_reducible refine Kd.C_drewN ?_ _) | (with_reducible refine Kd.C_drew ?_) | exact HR314.out)) | (with_reducible refine Kd.C_alloc ?_ _) | (with_reducible refine Kd.C_drewN ?_ _) | (with_reducible refine Kd.C_drew ?_))); (case side2 => exact HC314.out); rintro e w73 ⟨rfl, hb⟩; refine ⟨_, rfl, ?_⟩; have n0_ := Aside0.mk (Kd.R_below (by (with_reducible repeat (first | apply Kd.R_alloc | apply Kd.R_drewN | apply Kd.R_drew)); exact HO_11.out) hb); have n1_ := Aside0.mk (Kd.R_below (by (with_reducible repeat (first | apply Kd.R_alloc | apply Kd.R_drewN | apply Kd.R_drew)); exact HO_12.out) hb); have n2_ := Aside0.mk (Kd.C_below (by repeat (first | (with_reducible exact HR314.out) | (with_reducible refine Kd.C_alloc ?_ _) | (with_reducible refine Kd.C_drewN ?_ _) | (with_reducible refine Kd.C_drew ?_) | exact HR314.out)) hb); have n3_ := Aside0.mk (below_step (by repeat (first | (with_reducible first | exact HB.out | apply below_alloc | apply pw_below_drewN | apply below_drew1) | exact HB.out)) hb); clear HO_11; clear HO_12; clear HR314; clear HB; have HO_11 := n0_; have HO_12 := n1_; have HR314 := n2_; have HB := n3_; clear n0_ n1_ n2_ n3_; (try clear hb); (try clear hb2); (try clear hk); (try clear hi); have q74 : ((ji62) : Int) ≤ ((t284.length : Int) : Int) := of_decide_eq_true (by first | (with_reducible assumption) | assumption); obtain ⟨i074, hi074, _, hsz74, _⟩ := info_parts info5; have hroom74 : t284.length ≤ co30 := (Kd.R_reads' HO_12.out).2.1; have hC74 : Kd.C (Kd.int .u8) _ Ao30 t284.length t284 := (Kd.R_reads' HO_12.out).2.2; have hcut74 := cut_to (P := Try.prog) 22 5 .i64 Try.underlying22 hi074 Ao30 t284.length co30 (ji62) (of_decide_eq_true (by first | (with_reducible assumption) | assumption)) q74 hroom74; have hr74 := Kd.C_take (m := ((ji62) : Int).toNat) hC74 (by omega); have hy74 : y318.length = ((ji62) : Int).toNat := (by rw [Ny318.out, List.length_take]; omega); rw [← Ny318.out] at hr74; rw [← hy74] at hcut74; have HR321 := Aside0.mk hr74; have HC321 := Aside0.mk (show y318.length ≤ co30 from by omega); clear hr74 hC74 hroom74 hi074 hsz74; have KY74 := Aside0.mk hy74; clear hy74; have KL74 := Aside0.mk (show ((ji62) : Int).toNat ≤ t284.length from by omega); replace q74 := eq_true q74) | ((with_reducible refine gate_callee (f := 21) rfl ?_); refine goesL_ (some 144) rfl rfl Try.func21 (by kernel_rfl) rfl #[.slice Ao30 y318.length co30, .int .i64 0, .int .i64 64] rfl (by (try simp only [List.map_toArray, List.map_cons, List.map_nil]); first | done | rfl | (simp only [List.length_drop, List.length_take]; rfl)) ?_; (with_reducible refine (leb_ReadS.calls kj45 _ _ y318 0 64 t322 t323 t324 _ ?side1 ?side2 A65.out).mono ?_); (case side1 => repeat (first | exact (by repeat (first | (with_reducible exact HR321.out) | (with_reducible refine Kd.C_alloc ?_ _) | (with_reducible refine Kd.C_drewN ?_ _) | (with_reducible refine Kd.C_drew ?_) | exact HR321.out)) | (with_reducible refine Kd.C_alloc ?_ _) | (with_reducible refine Kd.C_drewN ?_ _) | (with_reducible refine Kd.C_drew ?_))); (case side2 => exact HC321.out); rintro e w75 ⟨rfl, hb⟩; refine ⟨_, rfl, ?_⟩; have n0_ := Aside0.mk (Kd.R_below (by (with_reducible repeat (first | apply Kd.R_alloc | apply Kd.R_drewN | apply Kd.R_drew)); exact HO_11.out) hb); have n1_ := Aside0.mk (Kd.R_below (by (with_reducible repeat (first | apply Kd.R_alloc | apply Kd.R_drewN | apply Kd.R_drew)); exact HO_12.out) hb); have n2_ := Aside0.mk (Kd.C_below (by repeat (first | (with_reducible exact HR314.out) | (with_reducible refine Kd.C_alloc ?_ _) | (with_reducible refine Kd.C_drewN ?_ _) | (with_reducible refine Kd.C_drew ?_) | exact HR314.out)) hb); have n3_ := Aside0.mk (Kd.C_below (by repeat (first | (with_reducible exact HR321.out) | (with_reducible refine Kd.C_alloc ?_ _) | (with_reducible refine Kd.C_drewN ?_ _) | (with_reducible refine Kd.C_drew ?_) | exact HR321.out)) hb); have n4_ := Aside0.mk (below_step (by repeat (first | (with_reducible first | exact HB.out | apply below_alloc | apply pw_below_drewN | apply below_drew1) | exact HB.out)) hb); clear HO_11; clear HO_12; clear HR314; clear HR321; clear HB; have HO_11 := n0_; have HO_12 := n1_; have HR314 := n2_; have HR321 := n3_; have HB := n4_; clear n0_ n1_ n2_ n3_ n4_; (try clear hb); (try clear hb2); (try clear hk); (try clear hi)) | (go_at_call 15; (with_reducible refine (leb_LenU.calls a0 t325 _ A69.out).mono ?_); rintro e w76 ⟨rfl, hb⟩; have n0_ := Aside0.mk (Kd.R_below (by (with_reducible repeat (first | apply Kd.R_alloc | apply Kd.R_drewN | apply Kd.R_drew)); exact HO_11.out) hb); have n1_ := Aside0.mk (Kd.R_below (by (with_reducible repeat (first | apply Kd.R_alloc | apply Kd.R_drewN | apply Kd.R_drew)); exact HO_12.out) hb); have n2_ := Aside0.mk (Kd.C_below (by repeat (first | (with_reducible exact HR314.out) | (with_reducible refine Kd.C_alloc ?_ _) | (with_reducible refine Kd.C_drewN ?_ _) | (with_reducible refine Kd.C_drew ?_) | exact HR314.out)) hb); have n3_ := Aside0.mk (Kd.C_below (by repeat (first | (with_reducible exact HR321.out) | (with_reducible refine Kd.C_alloc ?_ _) | (with_reducible refine Kd.C_drewN ?_ _) | (with_reducible refine Kd.C_drew ?_) | exact HR321.out)) hb); have n4_ := Aside0.mk (below_step (by repeat (first | (with_reducible first | exact HB.out | apply below_alloc | apply pw_below_drewN | apply below_drew1) | exact HB.out)) hb); clear HO_11; clear HO_12; clear HR314; clear HR321; clear HB; have HO_11 := n0_; have HO_12 := n1_; have HR314 := n2_; have HR321 := n3_; have HB := n4_; clear n0_ n1_ n2_ n3_ n4_; (try clear hb); (try clear hb2); (try clear hk); (try clear hi)) | (go_at_call 17; (with_reducible refine (leb_LenS.calls a1 t326 _ A71.out).mono ?_); rintro e w' ⟨rfl, ⟨nd, rfl⟩⟩))
                                          go_ret
                                          exact ⟨by first | rfl | (simp [errW_none, errW_some] <;> rfl) | (simp only [← hji58, ← hji62]; first | rfl | (simp [errW_none, errW_some] <;> rfl)) | (simp [*, errW_none, errW_some] <;> rfl), by repeat (first | (with_reducible first | exact HB.out | apply below_alloc | apply pw_below_drewN | apply below_drew1) | exact HB.out)⟩
                                        · rw [if_neg c70] at H
                                          have c70b0 : ((t281.length : Int) == t325) = false := beq_eq_false_iff_ne.mpr c70
                                          have c70b1 : ((t281.length : Int) != t325) = true := bne_iff_ne.mpr c70
                                          obtain rfl := Option.some.inj H
                                          have q77 : ((ji58) : Int) ≤ ((t281.length : Int) : Int) := of_decide_eq_true (by first | (with_reducible assumption) | assumption)
                                          obtain ⟨i077, hi077, _, hsz77, _⟩ := info_parts info5
                                          have hroom77 : t281.length ≤ co23 := (Kd.R_reads' HO_11.out).2.1
                                          have hC77 : Kd.C (Kd.int .u8) _ Ao23 t281.length t281 := (Kd.R_reads' HO_11.out).2.2
                                          have hcut77 := cut_to (P := Try.prog) 22 5 .i64 Try.underlying22 hi077 Ao23 t281.length co23 (ji58) (of_decide_eq_true (by first | (with_reducible assumption) | assumption)) q77 hroom77
                                          have hr77 := Kd.C_take (m := ((ji58) : Int).toNat) hC77 (by omega)
                                          have hy77 : y311.length = ((ji58) : Int).toNat := (by rw [Ny311.out, List.length_take]; omega)
                                          rw [← Ny311.out] at hr77
                                          rw [← hy77] at hcut77
                                          have HR314 := Aside0.mk hr77
                                          have HC314 := Aside0.mk (show y311.length ≤ co23 from by omega)
                                          clear hr77 hC77 hroom77 hi077 hsz77
                                          have KY77 := Aside0.mk hy77
                                          clear hy77
                                          have KL77 := Aside0.mk (show ((ji58) : Int).toNat ≤ t281.length from by omega)
                                          replace q77 := eq_true q77
                                          go_wp2_with (first | ((with_reducible refine gate_callee (f := 19) rfl ?_); refine goesL_ (some 133) rfl rfl Try.func19 (by kernel_rfl) rfl #[.slice Ao23 y311.length co23, .int .i64 0, .int .i64 64] rfl (by (try simp only [List.map_toArray, List.map_cons, List.map_nil]); first | done | rfl | (simp only [List.length_drop, List.length_take]; rfl)) ?_; (with_reducible refine (leb_ReadU.calls _ _ y311 0 64 t315 t316 t317 _ ?side1 ?side2 A61.out).mono ?_); (case side1 => repeat (first | exact (by repeat (first | (with_reducible exact HR314.out) | (with_reducible refine Kd.C_alloc ?_ _) | (with_reducible refine Kd.C_drewN ?_ _) | (with_reducible refine Kd.C_drew ?_) | exact HR314.out)) | (with_reducible refine Kd.C_alloc ?_ _) | (with_reducible refine Kd.C_drewN ?_ _) | (with_reducible refine Kd.C_drew ?_))); (case side2 => exact HC314.out); rintro e w78 ⟨rfl, hb⟩; refine ⟨_, rfl, ?_⟩; have n0_ := Aside0.mk (Kd.R_below (by (with_reducible repeat (first | apply Kd.R_alloc | apply Kd.R_drewN | apply Kd.R_drew)); exact HO_11.out) hb); have n1_ := Aside0.mk (Kd.R_below (by (with_reducible repeat (first | apply Kd.R_alloc | apply Kd.R_drewN | apply Kd.R_drew)); exact HO_12.out) hb); have n2_ := Aside0.mk (Kd.C_below (by repeat (first | (with_reducible exact HR314.out) | (with_reducible refine Kd.C_alloc ?_ _) | (with_reducible refine Kd.C_drewN ?_ _) | (with_reducible refine Kd.C_drew ?_) | exact HR314.out)) hb); have n3_ := Aside0.mk (below_step (by repeat (first | (with_reducible first | exact HB.out | apply below_alloc | apply pw_below_drewN | apply below_drew1) | exact HB.out)) hb); clear HO_11; clear HO_12; clear HR314; clear HB; have HO_11 := n0_; have HO_12 := n1_; have HR314 := n2_; have HB := n3_; clear n0_ n1_ n2_ n3_; (try clear hb); (try clear hb2); (try clear hk); (try clear hi); have q79 : ((ji62) : Int) ≤ ((t284.length : Int) : Int) := of_decide_eq_true (by first | (with_reducible assumption) | assumption); obtain ⟨i079, hi079, _, hsz79, _⟩ := info_parts info5; have hroom79 : t284.length ≤ co30 := (Kd.R_reads' HO_12.out).2.1; have hC79 : Kd.C (Kd.int .u8) _ Ao30 t284.length t284 := (Kd.R_reads' HO_12.out).2.2; have hcut79 := cut_to (P := Try.prog) 22 5 .i64 Try.underlying22 hi079 Ao30 t284.length co30 (ji62) (of_decide_eq_true (by first | (with_reducible assumption) | assumption)) q79 hroom79; have hr79 := Kd.C_take (m := ((ji62) : Int).toNat) hC79 (by omega); have hy79 : y318.length = ((ji62) : Int).toNat := (by rw [Ny318.out, List.length_take]; omega); rw [← Ny318.out] at hr79; rw [← hy79] at hcut79; have HR321 := Aside0.mk hr79; have HC321 := Aside0.mk (show y318.length ≤ co30 from by omega); clear hr79 hC79 hroom79 hi079 hsz79; have KY79 := Aside0.mk hy79; clear hy79; have KL79 := Aside0.mk (show ((ji62) : Int).toNat ≤ t284.length from by omega); replace q79 := eq_true q79) | ((with_reducible refine gate_callee (f := 21) rfl ?_); refine goesL_ (some 144) rfl rfl Try.func21 (by kernel_rfl) rfl #[.slice Ao30 y318.length co30, .int .i64 0, .int .i64 64] rfl (by (try simp only [List.map_toArray, List.map_cons, List.map_nil]); first | done | rfl | (simp only [List.length_drop, List.length_take]; rfl)) ?_; (with_reducible refine (leb_ReadS.calls kj45 _ _ y318 0 64 t322 t323 t324 _ ?side1 ?side2 A65.out).mono ?_); (case side1 => repeat (first | exact (by repeat (first | (with_reducible exact HR321.out) | (with_reducible refine Kd.C_alloc ?_ _) | (with_reducible refine Kd.C_drewN ?_ _) | (with_reducible refine Kd.C_drew ?_) | exact HR321.out)) | (with_reducible refine Kd.C_alloc ?_ _) | (with_reducible refine Kd.C_drewN ?_ _) | (with_reducible refine Kd.C_drew ?_))); (case side2 => exact HC321.out); rintro e w80 ⟨rfl, hb⟩; refine ⟨_, rfl, ?_⟩; have n0_ := Aside0.mk (Kd.R_below (by (with_reducible repeat (first | apply Kd.R_alloc | apply Kd.R_drewN | apply Kd.R_drew)); exact HO_11.out) hb); have n1_ := Aside0.mk (Kd.R_below (by (with_reducible repeat (first | apply Kd.R_alloc | apply Kd.R_drewN | apply Kd.R_drew)); exact HO_12.out) hb); have n2_ := Aside0.mk (Kd.C_below (by repeat (first | (with_reducible exact HR314.out) | (with_reducible refine Kd.C_alloc ?_ _) | (with_reducible refine Kd.C_drewN ?_ _) | (with_reducible refine Kd.C_drew ?_) | exact HR314.out)) hb); have n3_ := Aside0.mk (Kd.C_below (by repeat (first | (with_reducible exact HR321.out) | (with_reducible refine Kd.C_alloc ?_ _) | (with_reducible refine Kd.C_drewN ?_ _) | (with_reducible refine Kd.C_drew ?_) | exact HR321.out)) hb); have n4_ := Aside0.mk (below_step (by repeat (first | (with_reducible first | exact HB.out | apply below_alloc | apply pw_below_drewN | apply below_drew1) | exact HB.out)) hb); clear HO_11; clear HO_12; clear HR314; clear HR321; clear HB; have HO_11 := n0_; have HO_12 := n1_; have HR314 := n2_; have HR321 := n3_; have HB := n4_; clear n0_ n1_ n2_ n3_ n4_; (try clear hb); (try clear hb2); (try clear hk); (try clear hi)) | (go_at_call 15; (with_reducible refine (leb_LenU.calls a0 t325 _ A69.out).mono ?_); rintro e w81 ⟨rfl, hb⟩; have n0_ := Aside0.mk (Kd.R_below (by (with_reducible repeat (first | apply Kd.R_alloc | apply Kd.R_drewN | apply Kd.R_drew)); exact HO_11.out) hb); have n1_ := Aside0.mk (Kd.R_below (by (with_reducible repeat (first | apply Kd.R_alloc | apply Kd.R_drewN | apply Kd.R_drew)); exact HO_12.out) hb); have n2_ := Aside0.mk (Kd.C_below (by repeat (first | (with_reducible exact HR314.out) | (with_reducible refine Kd.C_alloc ?_ _) | (with_reducible refine Kd.C_drewN ?_ _) | (with_reducible refine Kd.C_drew ?_) | exact HR314.out)) hb); have n3_ := Aside0.mk (Kd.C_below (by repeat (first | (with_reducible exact HR321.out) | (with_reducible refine Kd.C_alloc ?_ _) | (with_reducible refine Kd.C_drewN ?_ _) | (with_reducible refine Kd.C_drew ?_) | exact HR321.out)) hb); have n4_ := Aside0.mk (below_step (by repeat (first | (with_reducible first | exact HB.out | apply below_alloc | apply pw_below_drewN | apply below_drew1) | exact HB.out)) hb); clear HO_11; clear HO_12; clear HR314; clear HR321; clear HB; have HO_11 := n0_; have HO_12 := n1_; have HR314 := n2_; have HR321 := n3_; have HB := n4_; clear n0_ n1_ n2_ n3_ n4_; (try clear hb); (try clear hb2); (try clear hk); (try clear hi)))
                                          go_ret
                                          exact ⟨by first | rfl | (simp [errW_none, errW_some] <;> rfl) | (simp only [← hji58, ← hji62]; first | rfl | (simp [errW_none, errW_some] <;> rfl)) | (simp [*, errW_none, errW_some] <;> rfl), by repeat (first | (with_reducible first | exact HB.out | apply below_alloc | apply pw_below_drewN | apply below_drew1) | exact HB.out)⟩
                                      · rw [if_neg c68] at H
                                        have c68b0 : (t324 == 2) = false := beq_eq_false_iff_ne.mpr c68
                                        have c68b1 : (t324 != 2) = true := bne_iff_ne.mpr c68
                                        obtain rfl := Option.some.inj H
                                        have q82 : ((ji58) : Int) ≤ ((t281.length : Int) : Int) := of_decide_eq_true (by first | (with_reducible assumption) | assumption)
                                        obtain ⟨i082, hi082, _, hsz82, _⟩ := info_parts info5
                                        have hroom82 : t281.length ≤ co23 := (Kd.R_reads' HO_11.out).2.1
                                        have hC82 : Kd.C (Kd.int .u8) _ Ao23 t281.length t281 := (Kd.R_reads' HO_11.out).2.2
                                        have hcut82 := cut_to (P := Try.prog) 22 5 .i64 Try.underlying22 hi082 Ao23 t281.length co23 (ji58) (of_decide_eq_true (by first | (with_reducible assumption) | assumption)) q82 hroom82
                                        have hr82 := Kd.C_take (m := ((ji58) : Int).toNat) hC82 (by omega)
                                        have hy82 : y311.length = ((ji58) : Int).toNat := (by rw [Ny311.out, List.length_take]; omega)
                                        rw [← Ny311.out] at hr82
                                        rw [← hy82] at hcut82
                                        have HR314 := Aside0.mk hr82
                                        have HC314 := Aside0.mk (show y311.length ≤ co23 from by omega)
                                        clear hr82 hC82 hroom82 hi082 hsz82
                                        have KY82 := Aside0.mk hy82
                                        clear hy82
                                        have KL82 := Aside0.mk (show ((ji58) : Int).toNat ≤ t281.length from by omega)
                                        replace q82 := eq_true q82
                                        go_wp2_with (first | ((with_reducible refine gate_callee (f := 19) rfl ?_); refine goesL_ (some 133) rfl rfl Try.func19 (by kernel_rfl) rfl #[.slice Ao23 y311.length co23, .int .i64 0, .int .i64 64] rfl (by (try simp only [List.map_toArray, List.map_cons, List.map_nil]); first | done | rfl | (simp only [List.length_drop, List.length_take]; rfl)) ?_; (with_reducible refine (leb_ReadU.calls _ _ y311 0 64 t315 t316 t317 _ ?side1 ?side2 A61.out).mono ?_); (case side1 => repeat (first | exact (by repeat (first | (with_reducible exact HR314.out) | (with_reducible refine Kd.C_alloc ?_ _) | (with_reducible refine Kd.C_drewN ?_ _) | (with_reducible refine Kd.C_drew ?_) | exact HR314.out)) | (with_reducible refine Kd.C_alloc ?_ _) | (with_reducible refine Kd.C_drewN ?_ _) | (with_reducible refine Kd.C_drew ?_))); (case side2 => exact HC314.out); rintro e w83 ⟨rfl, hb⟩; refine ⟨_, rfl, ?_⟩; have n0_ := Aside0.mk (Kd.R_below (by (with_reducible repeat (first | apply Kd.R_alloc | apply Kd.R_drewN | apply Kd.R_drew)); exact HO_11.out) hb); have n1_ := Aside0.mk (Kd.R_below (by (with_reducible repeat (first | apply Kd.R_alloc | apply Kd.R_drewN | apply Kd.R_drew)); exact HO_12.out) hb); have n2_ := Aside0.mk (Kd.C_below (by repeat (first | (with_reducible exact HR314.out) | (with_reducible refine Kd.C_alloc ?_ _) | (with_reducible refine Kd.C_drewN ?_ _) | (with_reducible refine Kd.C_drew ?_) | exact HR314.out)) hb); have n3_ := Aside0.mk (below_step (by repeat (first | (with_reducible first | exact HB.out | apply below_alloc | apply pw_below_drewN | apply below_drew1) | exact HB.out)) hb); clear HO_11; clear HO_12; clear HR314; clear HB; have HO_11 := n0_; have HO_12 := n1_; have HR314 := n2_; have HB := n3_; clear n0_ n1_ n2_ n3_; (try clear hb); (try clear hb2); (try clear hk); (try clear hi); have q84 : ((ji62) : Int) ≤ ((t284.length : Int) : Int) := of_decide_eq_true (by first | (with_reducible assumption) | assumption); obtain ⟨i084, hi084, _, hsz84, _⟩ := info_parts info5; have hroom84 : t284.length ≤ co30 := (Kd.R_reads' HO_12.out).2.1; have hC84 : Kd.C (Kd.int .u8) _ Ao30 t284.length t284 := (Kd.R_reads' HO_12.out).2.2; have hcut84 := cut_to (P := Try.prog) 22 5 .i64 Try.underlying22 hi084 Ao30 t284.length co30 (ji62) (of_decide_eq_true (by first | (with_reducible assumption) | assumption)) q84 hroom84; have hr84 := Kd.C_take (m := ((ji62) : Int).toNat) hC84 (by omega); have hy84 : y318.length = ((ji62) : Int).toNat := (by rw [Ny318.out, List.length_take]; omega); rw [← Ny318.out] at hr84; rw [← hy84] at hcut84; have HR321 := Aside0.mk hr84; have HC321 := Aside0.mk (show y318.length ≤ co30 from by omega); clear hr84 hC84 hroom84 hi084 hsz84; have KY84 := Aside0.mk hy84; clear hy84; have KL84 := Aside0.mk (show ((ji62) : Int).toNat ≤ t284.length from by omega); replace q84 := eq_true q84) | ((with_reducible refine gate_callee (f := 21) rfl ?_); refine goesL_ (some 144) rfl rfl Try.func21 (by kernel_rfl) rfl #[.slice Ao30 y318.length co30, .int .i64 0, .int .i64 64] rfl (by (try simp only [List.map_toArray, List.map_cons, List.map_nil]); first | done | rfl | (simp only [List.length_drop, List.length_take]; rfl)) ?_; (with_reducible refine (leb_ReadS.calls kj45 _ _ y318 0 64 t322 t323 t324 _ ?side1 ?side2 A65.out).mono ?_); (case side1 => repeat (first | exact (by repeat (first | (with_reducible exact HR321.out) | (with_reducible refine Kd.C_alloc ?_ _) | (with_reducible refine Kd.C_drewN ?_ _) | (with_reducible refine Kd.C_drew ?_) | exact HR321.out)) | (with_reducible refine Kd.C_alloc ?_ _) | (with_reducible refine Kd.C_drewN ?_ _) | (with_reducible refine Kd.C_drew ?_))); (case side2 => exact HC321.out); rintro e w85 ⟨rfl, hb⟩; refine ⟨_, rfl, ?_⟩; have n0_ := Aside0.mk (Kd.R_below (by (with_reducible repeat (first | apply Kd.R_alloc | apply Kd.R_drewN | apply Kd.R_drew)); exact HO_11.out) hb); have n1_ := Aside0.mk (Kd.R_below (by (with_reducible repeat (first | apply Kd.R_alloc | apply Kd.R_drewN | apply Kd.R_drew)); exact HO_12.out) hb); have n2_ := Aside0.mk (Kd.C_below (by repeat (first | (with_reducible exact HR314.out) | (with_reducible refine Kd.C_alloc ?_ _) | (with_reducible refine Kd.C_drewN ?_ _) | (with_reducible refine Kd.C_drew ?_) | exact HR314.out)) hb); have n3_ := Aside0.mk (Kd.C_below (by repeat (first | (with_reducible exact HR321.out) | (with_reducible refine Kd.C_alloc ?_ _) | (with_reducible refine Kd.C_drewN ?_ _) | (with_reducible refine Kd.C_drew ?_) | exact HR321.out)) hb); have n4_ := Aside0.mk (below_step (by repeat (first | (with_reducible first | exact HB.out | apply below_alloc | apply pw_below_drewN | apply below_drew1) | exact HB.out)) hb); clear HO_11; clear HO_12; clear HR314; clear HR321; clear HB; have HO_11 := n0_; have HO_12 := n1_; have HR314 := n2_; have HR321 := n3_; have HB := n4_; clear n0_ n1_ n2_ n3_ n4_; (try clear hb); (try clear hb2); (try clear hk); (try clear hi)))
                                        go_ret
                                        exact ⟨by first | rfl | (simp [errW_none, errW_some] <;> rfl) | (simp only [← hji58, ← hji62]; first | rfl | (simp [errW_none, errW_some] <;> rfl)) | (simp [*, errW_none, errW_some] <;> rfl), by repeat (first | (with_reducible first | exact HB.out | apply below_alloc | apply pw_below_drewN | apply below_drew1) | exact HB.out)⟩
                                    · rw [if_neg c67] at H
                                      have c67b0 : (t317 == 2) = false := beq_eq_false_iff_ne.mpr c67
                                      have c67b1 : (t317 != 2) = true := bne_iff_ne.mpr c67
                                      obtain rfl := Option.some.inj H
                                      have q86 : ((ji58) : Int) ≤ ((t281.length : Int) : Int) := of_decide_eq_true (by first | (with_reducible assumption) | assumption)
                                      obtain ⟨i086, hi086, _, hsz86, _⟩ := info_parts info5
                                      have hroom86 : t281.length ≤ co23 := (Kd.R_reads' HO_11.out).2.1
                                      have hC86 : Kd.C (Kd.int .u8) _ Ao23 t281.length t281 := (Kd.R_reads' HO_11.out).2.2
                                      have hcut86 := cut_to (P := Try.prog) 22 5 .i64 Try.underlying22 hi086 Ao23 t281.length co23 (ji58) (of_decide_eq_true (by first | (with_reducible assumption) | assumption)) q86 hroom86
                                      have hr86 := Kd.C_take (m := ((ji58) : Int).toNat) hC86 (by omega)
                                      have hy86 : y311.length = ((ji58) : Int).toNat := (by rw [Ny311.out, List.length_take]; omega)
                                      rw [← Ny311.out] at hr86
                                      rw [← hy86] at hcut86
                                      have HR314 := Aside0.mk hr86
                                      have HC314 := Aside0.mk (show y311.length ≤ co23 from by omega)
                                      clear hr86 hC86 hroom86 hi086 hsz86
                                      have KY86 := Aside0.mk hy86
                                      clear hy86
                                      have KL86 := Aside0.mk (show ((ji58) : Int).toNat ≤ t281.length from by omega)
                                      replace q86 := eq_true q86
                                      go_wp2_with (first | ((with_reducible refine gate_callee (f := 19) rfl ?_); refine goesL_ (some 133) rfl rfl Try.func19 (by kernel_rfl) rfl #[.slice Ao23 y311.length co23, .int .i64 0, .int .i64 64] rfl (by (try simp only [List.map_toArray, List.map_cons, List.map_nil]); first | done | rfl | (simp only [List.length_drop, List.length_take]; rfl)) ?_; (with_reducible refine (leb_ReadU.calls _ _ y311 0 64 t315 t316 t317 _ ?side1 ?side2 A61.out).mono ?_); (case side1 => repeat (first | exact (by repeat (first | (with_reducible exact HR314.out) | (with_reducible refine Kd.C_alloc ?_ _) | (with_reducible refine Kd.C_drewN ?_ _) | (with_reducible refine Kd.C_drew ?_) | exact HR314.out)) | (with_reducible refine Kd.C_alloc ?_ _) | (with_reducible refine Kd.C_drewN ?_ _) | (with_reducible refine Kd.C_drew ?_))); (case side2 => exact HC314.out); rintro e w87 ⟨rfl, hb⟩; refine ⟨_, rfl, ?_⟩; have n0_ := Aside0.mk (Kd.R_below (by (with_reducible repeat (first | apply Kd.R_alloc | apply Kd.R_drewN | apply Kd.R_drew)); exact HO_11.out) hb); have n1_ := Aside0.mk (Kd.R_below (by (with_reducible repeat (first | apply Kd.R_alloc | apply Kd.R_drewN | apply Kd.R_drew)); exact HO_12.out) hb); have n2_ := Aside0.mk (Kd.C_below (by repeat (first | (with_reducible exact HR314.out) | (with_reducible refine Kd.C_alloc ?_ _) | (with_reducible refine Kd.C_drewN ?_ _) | (with_reducible refine Kd.C_drew ?_) | exact HR314.out)) hb); have n3_ := Aside0.mk (below_step (by repeat (first | (with_reducible first | exact HB.out | apply below_alloc | apply pw_below_drewN | apply below_drew1) | exact HB.out)) hb); clear HO_11; clear HO_12; clear HR314; clear HB; have HO_11 := n0_; have HO_12 := n1_; have HR314 := n2_; have HB := n3_; clear n0_ n1_ n2_ n3_; (try clear hb); (try clear hb2); (try clear hk); (try clear hi); have q88 : ((ji62) : Int) ≤ ((t284.length : Int) : Int) := of_decide_eq_true (by first | (with_reducible assumption) | assumption); obtain ⟨i088, hi088, _, hsz88, _⟩ := info_parts info5; have hroom88 : t284.length ≤ co30 := (Kd.R_reads' HO_12.out).2.1; have hC88 : Kd.C (Kd.int .u8) _ Ao30 t284.length t284 := (Kd.R_reads' HO_12.out).2.2; have hcut88 := cut_to (P := Try.prog) 22 5 .i64 Try.underlying22 hi088 Ao30 t284.length co30 (ji62) (of_decide_eq_true (by first | (with_reducible assumption) | assumption)) q88 hroom88; have hr88 := Kd.C_take (m := ((ji62) : Int).toNat) hC88 (by omega); have hy88 : y318.length = ((ji62) : Int).toNat := (by rw [Ny318.out, List.length_take]; omega); rw [← Ny318.out] at hr88; rw [← hy88] at hcut88; have HR321 := Aside0.mk hr88; have HC321 := Aside0.mk (show y318.length ≤ co30 from by omega); clear hr88 hC88 hroom88 hi088 hsz88; have KY88 := Aside0.mk hy88; clear hy88; have KL88 := Aside0.mk (show ((ji62) : Int).toNat ≤ t284.length from by omega); replace q88 := eq_true q88) | ((with_reducible refine gate_callee (f := 21) rfl ?_); refine goesL_ (some 144) rfl rfl Try.func21 (by kernel_rfl) rfl #[.slice Ao30 y318.length co30, .int .i64 0, .int .i64 64] rfl (by (try simp only [List.map_toArray, List.map_cons, List.map_nil]); first | done | rfl | (simp only [List.length_drop, List.length_take]; rfl)) ?_; (with_reducible refine (leb_ReadS.calls kj45 _ _ y318 0 64 t322 t323 t324 _ ?side1 ?side2 A65.out).mono ?_); (case side1 => repeat (first | exact (by repeat (first | (with_reducible exact HR321.out) | (with_reducible refine Kd.C_alloc ?_ _) | (with_reducible refine Kd.C_drewN ?_ _) | (with_reducible refine Kd.C_drew ?_) | exact HR321.out)) | (with_reducible refine Kd.C_alloc ?_ _) | (with_reducible refine Kd.C_drewN ?_ _) | (with_reducible refine Kd.C_drew ?_))); (case side2 => exact HC321.out); rintro e w89 ⟨rfl, hb⟩; refine ⟨_, rfl, ?_⟩; have n0_ := Aside0.mk (Kd.R_below (by (with_reducible repeat (first | apply Kd.R_alloc | apply Kd.R_drewN | apply Kd.R_drew)); exact HO_11.out) hb); have n1_ := Aside0.mk (Kd.R_below (by (with_reducible repeat (first | apply Kd.R_alloc | apply Kd.R_drewN | apply Kd.R_drew)); exact HO_12.out) hb); have n2_ := Aside0.mk (Kd.C_below (by repeat (first | (with_reducible exact HR314.out) | (with_reducible refine Kd.C_alloc ?_ _) | (with_reducible refine Kd.C_drewN ?_ _) | (with_reducible refine Kd.C_drew ?_) | exact HR314.out)) hb); have n3_ := Aside0.mk (Kd.C_below (by repeat (first | (with_reducible exact HR321.out) | (with_reducible refine Kd.C_alloc ?_ _) | (with_reducible refine Kd.C_drewN ?_ _) | (with_reducible refine Kd.C_drew ?_) | exact HR321.out)) hb); have n4_ := Aside0.mk (below_step (by repeat (first | (with_reducible first | exact HB.out | apply below_alloc | apply pw_below_drewN | apply below_drew1) | exact HB.out)) hb); clear HO_11; clear HO_12; clear HR314; clear HR321; clear HB; have HO_11 := n0_; have HO_12 := n1_; have HR314 := n2_; have HR321 := n3_; have HB := n4_; clear n0_ n1_ n2_ n3_ n4_; (try clear hb); (try clear hb2); (try clear hk); (try clear hi)))
                                      go_ret
                                      exact ⟨by first | rfl | (simp [errW_none, errW_some] <;> rfl) | (simp only [← hji58, ← hji62]; first | rfl | (simp [errW_none, errW_some] <;> rfl)) | (simp [*, errW_none, errW_some] <;> rfl), by repeat (first | (with_reducible first | exact HB.out | apply below_alloc | apply pw_below_drewN | apply below_drew1) | exact HB.out)⟩
                                  · replace c66 := Bool.eq_false_iff.mpr c66
                                    subst c66
                                    have H1 : (some false) = some r := by rw [if_neg (show ¬ (false = true) by decide)] at H; exact H
                                    clear H
                                    have H := H1
                                    clear H1
                                    obtain rfl := Option.some.inj H
                                    have q90 : ((ji58) : Int) ≤ ((t281.length : Int) : Int) := of_decide_eq_true (by first | (with_reducible assumption) | assumption)
                                    obtain ⟨i090, hi090, _, hsz90, _⟩ := info_parts info5
                                    have hroom90 : t281.length ≤ co23 := (Kd.R_reads' HO_11.out).2.1
                                    have hC90 : Kd.C (Kd.int .u8) _ Ao23 t281.length t281 := (Kd.R_reads' HO_11.out).2.2
                                    have hcut90 := cut_to (P := Try.prog) 22 5 .i64 Try.underlying22 hi090 Ao23 t281.length co23 (ji58) (of_decide_eq_true (by first | (with_reducible assumption) | assumption)) q90 hroom90
                                    have hr90 := Kd.C_take (m := ((ji58) : Int).toNat) hC90 (by omega)
                                    have hy90 : y311.length = ((ji58) : Int).toNat := (by rw [Ny311.out, List.length_take]; omega)
                                    rw [← Ny311.out] at hr90
                                    rw [← hy90] at hcut90
                                    have HR314 := Aside0.mk hr90
                                    have HC314 := Aside0.mk (show y311.length ≤ co23 from by omega)
                                    clear hr90 hC90 hroom90 hi090 hsz90
                                    have KY90 := Aside0.mk hy90
                                    clear hy90
                                    have KL90 := Aside0.mk (show ((ji58) : Int).toNat ≤ t281.length from by omega)
                                    replace q90 := eq_true q90
                                    go_wp2_with (first | ((with_reducible refine gate_callee (f := 19) rfl ?_); refine goesL_ (some 133) rfl rfl Try.func19 (by kernel_rfl) rfl #[.slice Ao23 y311.length co23, .int .i64 0, .int .i64 64] rfl (by (try simp only [List.map_toArray, List.map_cons, List.map_nil]); first | done | rfl | (simp only [List.length_drop, List.length_take]; rfl)) ?_; (with_reducible refine (leb_ReadU.calls _ _ y311 0 64 t315 t316 t317 _ ?side1 ?side2 A61.out).mono ?_); (case side1 => repeat (first | exact (by repeat (first | (with_reducible exact HR314.out) | (with_reducible refine Kd.C_alloc ?_ _) | (with_reducible refine Kd.C_drewN ?_ _) | (with_reducible refine Kd.C_drew ?_) | exact HR314.out)) | (with_reducible refine Kd.C_alloc ?_ _) | (with_reducible refine Kd.C_drewN ?_ _) | (with_reducible refine Kd.C_drew ?_))); (case side2 => exact HC314.out); rintro e w91 ⟨rfl, hb⟩; refine ⟨_, rfl, ?_⟩; have n0_ := Aside0.mk (Kd.R_below (by (with_reducible repeat (first | apply Kd.R_alloc | apply Kd.R_drewN | apply Kd.R_drew)); exact HO_11.out) hb); have n1_ := Aside0.mk (Kd.R_below (by (with_reducible repeat (first | apply Kd.R_alloc | apply Kd.R_drewN | apply Kd.R_drew)); exact HO_12.out) hb); have n2_ := Aside0.mk (Kd.C_below (by repeat (first | (with_reducible exact HR314.out) | (with_reducible refine Kd.C_alloc ?_ _) | (with_reducible refine Kd.C_drewN ?_ _) | (with_reducible refine Kd.C_drew ?_) | exact HR314.out)) hb); have n3_ := Aside0.mk (below_step (by repeat (first | (with_reducible first | exact HB.out | apply below_alloc | apply pw_below_drewN | apply below_drew1) | exact HB.out)) hb); clear HO_11; clear HO_12; clear HR314; clear HB; have HO_11 := n0_; have HO_12 := n1_; have HR314 := n2_; have HB := n3_; clear n0_ n1_ n2_ n3_; (try clear hb); (try clear hb2); (try clear hk); (try clear hi); have q92 : ((ji62) : Int) ≤ ((t284.length : Int) : Int) := of_decide_eq_true (by first | (with_reducible assumption) | assumption); obtain ⟨i092, hi092, _, hsz92, _⟩ := info_parts info5; have hroom92 : t284.length ≤ co30 := (Kd.R_reads' HO_12.out).2.1; have hC92 : Kd.C (Kd.int .u8) _ Ao30 t284.length t284 := (Kd.R_reads' HO_12.out).2.2; have hcut92 := cut_to (P := Try.prog) 22 5 .i64 Try.underlying22 hi092 Ao30 t284.length co30 (ji62) (of_decide_eq_true (by first | (with_reducible assumption) | assumption)) q92 hroom92; have hr92 := Kd.C_take (m := ((ji62) : Int).toNat) hC92 (by omega); have hy92 : y318.length = ((ji62) : Int).toNat := (by rw [Ny318.out, List.length_take]; omega); rw [← Ny318.out] at hr92; rw [← hy92] at hcut92; have HR321 := Aside0.mk hr92; have HC321 := Aside0.mk (show y318.length ≤ co30 from by omega); clear hr92 hC92 hroom92 hi092 hsz92; have KY92 := Aside0.mk hy92; clear hy92; have KL92 := Aside0.mk (show ((ji62) : Int).toNat ≤ t284.length from by omega); replace q92 := eq_true q92) | ((with_reducible refine gate_callee (f := 21) rfl ?_); refine goesL_ (some 144) rfl rfl Try.func21 (by kernel_rfl) rfl #[.slice Ao30 y318.length co30, .int .i64 0, .int .i64 64] rfl (by (try simp only [List.map_toArray, List.map_cons, List.map_nil]); first | done | rfl | (simp only [List.length_drop, List.length_take]; rfl)) ?_; (with_reducible refine (leb_ReadS.calls kj45 _ _ y318 0 64 t322 t323 t324 _ ?side1 ?side2 A65.out).mono ?_); (case side1 => repeat (first | exact (by repeat (first | (with_reducible exact HR321.out) | (with_reducible refine Kd.C_alloc ?_ _) | (with_reducible refine Kd.C_drewN ?_ _) | (with_reducible refine Kd.C_drew ?_) | exact HR321.out)) | (with_reducible refine Kd.C_alloc ?_ _) | (with_reducible refine Kd.C_drewN ?_ _) | (with_reducible refine Kd.C_drew ?_))); (case side2 => exact HC321.out); rintro e w93 ⟨rfl, hb⟩; refine ⟨_, rfl, ?_⟩; have n0_ := Aside0.mk (Kd.R_below (by (with_reducible repeat (first | apply Kd.R_alloc | apply Kd.R_drewN | apply Kd.R_drew)); exact HO_11.out) hb); have n1_ := Aside0.mk (Kd.R_below (by (with_reducible repeat (first | apply Kd.R_alloc | apply Kd.R_drewN | apply Kd.R_drew)); exact HO_12.out) hb); have n2_ := Aside0.mk (Kd.C_below (by repeat (first | (with_reducible exact HR314.out) | (with_reducible refine Kd.C_alloc ?_ _) | (with_reducible refine Kd.C_drewN ?_ _) | (with_reducible refine Kd.C_drew ?_) | exact HR314.out)) hb); have n3_ := Aside0.mk (Kd.C_below (by repeat (first | (with_reducible exact HR321.out) | (with_reducible refine Kd.C_alloc ?_ _) | (with_reducible refine Kd.C_drewN ?_ _) | (with_reducible refine Kd.C_drew ?_) | exact HR321.out)) hb); have n4_ := Aside0.mk (below_step (by repeat (first | (with_reducible first | exact HB.out | apply below_alloc | apply pw_below_drewN | apply below_drew1) | exact HB.out)) hb); clear HO_11; clear HO_12; clear HR314; clear HR321; clear HB; have HO_11 := n0_; have HO_12 := n1_; have HR314 := n2_; have HR321 := n3_; have HB := n4_; clear n0_ n1_ n2_ n3_ n4_; (try clear hb); (try clear hb2); (try clear hk); (try clear hi)))
                                    go_ret
                                    exact ⟨by first | rfl | (simp [errW_none, errW_some] <;> rfl) | (simp only [← hji58, ← hji62]; first | rfl | (simp [errW_none, errW_some] <;> rfl)) | (simp [*, errW_none, errW_some] <;> rfl), by repeat (first | (with_reducible first | exact HB.out | apply below_alloc | apply pw_below_drewN | apply below_drew1) | exact HB.out)⟩
                                · rw [if_neg c64] at H
                                  exact absurd H (by simp)
                              · rw [if_neg c63] at H
                                exact absurd H (by simp)
                            · rw [if_neg c60] at H
                              exact absurd H (by simp)
                          · rw [if_neg c59] at H
                            exact absurd H (by simp)
          · rw [if_neg c14] at H
            exact absurd H (by simp)
        · rw [if_neg c13] at H
          exact absurd H (by simp)
      · rw [if_neg c11] at H
        exact absurd H (by simp)
    · rw [if_neg c10] at H
      exact absurd H (by simp)

/-- THE ONE PURE STATEMENT of avocetlaw01_LebBack: yours. -/
def avocetlaw01_LebBack.Pure : Prop := ∀ (a0 : Int) (a1 : Int) (a2 : Int) (l3 : List Int), (Lit.int .u64 a0).wf = true → (Lit.int .i64 a1).wf = true → (Lit.int .i64 a2).wf = true → l3.length ≤ maxLen → l3.length * 1 ≤ 140737488351232 → (∀ x ∈ l3, (Lit.int .u8 x).wf = true) → ∃ k, avocetlaw01_LebBack.f k a0 a1 a2 l3 = some true
theorem avocetlaw01_LebBack.walk (P : avocetlaw01_LebBack.Pure) (a0 : Int) (a1 : Int) (a2 : Int) (a3 : Option Addr) (len3 cap3 : Nat) (z3 : List Int) (w : World) (w0 : (Lit.int .u64 a0).wf = true) (w1 : (Lit.int .i64 a1).wf = true) (w2 : (Lit.int .i64 a2).wf = true) (w3 : (a3 = none ∧ len3 = 0 ∧ cap3 = 0 ∧ z3 = []) ∨ ∃ x, a3 = some x ∧ len3 ≤ cap3 ∧ cap3 ≤ maxLen ∧ z3.length = cap3 ∧ (∀ i, i < z3.length → w.cell? (x.add i) = some (.int .u8 (z3.getD i 0))) ∧ ∀ n ∈ z3, (Lit.int .u8 n).wf = true) (y3 : len3 * 1 ≤ 140737488351232) :
    Calls Try.prog 9 #[.int .u64 a0, .int .i64 a1, .int .i64 a2, .slice a3 len3 cap3] w fun e w' => e = .returned (.bool true) ∧ Below w.heap.size w w' := by
  obtain ⟨l3, rfl, hr3, hm3, hw3, hc3⟩ := ReadsInt.ofRowC w3
  obtain ⟨k, h⟩ := P a0 a1 a2 l3 w0 w1 w2 hm3 y3 hw3
  refine (avocetlaw01_LebBack.calls k a0 a1 a2 _ _ l3 true w (Kd.C_of_reads (d := (0 : Int)) (h1 := fun _ => rfl) hr3) hc3 h).mono ?_
  rintro e w' ⟨rfl, hd⟩
  exact ⟨rfl, hd⟩

end Go.Proofs.Ytiohdianmddfkaa.G
