-- Made by gprint.py (mine) over the kit's print.py, out of the translation; parts of it typed by hand.
import Derived.Test.YtjonlcnmpejamaaDoorG0
import Derived.Test.YtjonlcnmpejamaaDoorG1
import Derived.Test.YtjonlcnmpejamaaDoorG2
import Derived.Test.YtjonlcnmpejamaaDoorG4
import Derived.Test.YtjonlcnmpejamaaDoorG8
import Derived.Test.YtjonlcnmpejamaaDoorG9
namespace Go.Proofs.YtjonlcnmpejamaaDoor.G
open Go.RowKit Go.Proofs.YtjonlcnmpejamaaDoorW.PrintWords Go.Proofs.YtjonlcnmpejamaaDoorW.PrintLast Go.Proofs.YtjonlcnmpejamaaDoorW.PrintMore
attribute [local go_sem] max2_int min2_int max_two min_two max_three min_three max_four min_four   -- for this text's walks alone
set_option linter.unusedVariables false
set_option linter.unusedSimpArgs false

/-! ### avocetlaw02_IntsValues: function 10 -/
def avocetlaw02_IntsValues.f (k : Nat) (a0 : Int) (a1 : Int) (a2 : Int) : Option (Bool) := (avocetlaw02_awake.f k).bind fun t327 => (if t327 = true then ((ints_Fits.f a0 a1).bind fun t328 => ((avocetref02_Fits.f a0 a1).bind fun t329 => (if (t328 == t329) = true then ((ints_Signed.f a0 a1).bind fun t330 => ((avocetref02_Signed.f a0 a1).bind fun t331 => (if t330 = t331 then ((ints_Value.f a0 a2).bind fun t332 => ((avocetref02_Value.f a0 a2).bind fun t333 => (some (t332 == t333)))) else (some false)))) else (some false)))) else (some false))
theorem avocetlaw02_IntsValues.mono : ∀ a0 a1 a2 k, LeO (avocetlaw02_IntsValues.f k a0 a1 a2) (avocetlaw02_IntsValues.f (k + 1) a0 a1 a2) := by
  intro a0 a1 a2 k
  unfold avocetlaw02_IntsValues.f
  repeat' first
      | (with_reducible exact avocetlaw02_awake.mono _)
      | (with_reducible exact LeO.refl _)
      | (with_reducible exact LeO.none _)
      | (with_reducible refine LeO.ite ?_ ?_)
      | (with_reducible refine LeO.bind ?_ (fun _ => ?_))
      | exact avocetlaw02_awake.mono _
      | exact LeO.none _
      | refine LeO.ite ?_ ?_
      | refine LeO.bind ?_ (fun _ => ?_)
set_option maxHeartbeats 8000000 in
set_option maxRecDepth 100000 in
theorem avocetlaw02_IntsValues.calls (k : Nat) (a0 : Int) (a1 : Int) (a2 : Int) (r : Bool) (w : World) (hG : Globs w) (hr_ : r = true) (h : avocetlaw02_IntsValues.f k a0 a1 a2 = some r) :
    Calls Tryd.prog 10 #[.int .u8 a0, .int .u64 a1, .int .i64 a2] w fun e w' => e = .returned (.bool r) ∧ Below w.heap.size w w' := by
  have HRT_ := Aside0.mk hr_
  clear hr_
  have HG := Aside0.mk hG
  clear hG
  have HB := Aside0.mk (Below.refl w.heap.size w)
  have H : ((avocetlaw02_awake.f k).bind fun t327 => (if t327 = true then ((ints_Fits.f a0 a1).bind fun t328 => ((avocetref02_Fits.f a0 a1).bind fun t329 => (if (t328 == t329) = true then ((ints_Signed.f a0 a1).bind fun t330 => ((avocetref02_Signed.f a0 a1).bind fun t331 => (if t330 = t331 then ((ints_Value.f a0 a2).bind fun t332 => ((avocetref02_Value.f a0 a2).bind fun t333 => (some (t332 == t333)))) else (some false)))) else (some false)))) else (some false))) = some r := h
  clear h
  replace H := Option.bind_eq_some_iff.mp H
  obtain ⟨t327, A40, H⟩ := H
  replace H : (if t327 = true then ((ints_Fits.f a0 a1).bind fun t328 => ((avocetref02_Fits.f a0 a1).bind fun t329 => (if (t328 == t329) = true then ((ints_Signed.f a0 a1).bind fun t330 => ((avocetref02_Signed.f a0 a1).bind fun t331 => (if t330 = t331 then ((ints_Value.f a0 a2).bind fun t332 => ((avocetref02_Value.f a0 a2).bind fun t333 => (some (t332 == t333)))) else (some false)))) else (some false)))) else (some false)) = some r := H
  have A4 := Aside0.mk A40
  clear A40
  by_cases c5 : t327 = true
  · subst c5
    have H1 : ((ints_Fits.f a0 a1).bind fun t328 => ((avocetref02_Fits.f a0 a1).bind fun t329 => (if (t328 == t329) = true then ((ints_Signed.f a0 a1).bind fun t330 => ((avocetref02_Signed.f a0 a1).bind fun t331 => (if t330 = t331 then ((ints_Value.f a0 a2).bind fun t332 => ((avocetref02_Value.f a0 a2).bind fun t333 => (some (t332 == t333)))) else (some false)))) else (some false)))) = some r := by rw [if_pos rfl] at H; exact H
    clear H
    have H := H1
    clear H1
    replace H := Option.bind_eq_some_iff.mp H
    obtain ⟨t328, A60, H⟩ := H
    replace H : ((avocetref02_Fits.f a0 a1).bind fun t329 => (if (t328 == t329) = true then ((ints_Signed.f a0 a1).bind fun t330 => ((avocetref02_Signed.f a0 a1).bind fun t331 => (if t330 = t331 then ((ints_Value.f a0 a2).bind fun t332 => ((avocetref02_Value.f a0 a2).bind fun t333 => (some (t332 == t333)))) else (some false)))) else (some false))) = some r := H
    have A6 := Aside0.mk A60
    clear A60
    replace H := Option.bind_eq_some_iff.mp H
    obtain ⟨t329, A70, H⟩ := H
    replace H : (if (t328 == t329) = true then ((ints_Signed.f a0 a1).bind fun t330 => ((avocetref02_Signed.f a0 a1).bind fun t331 => (if t330 = t331 then ((ints_Value.f a0 a2).bind fun t332 => ((avocetref02_Value.f a0 a2).bind fun t333 => (some (t332 == t333)))) else (some false)))) else (some false)) = some r := H
    have A7 := Aside0.mk A70
    clear A70
    by_cases c8 : (t328 == t329) = true
    · rw [if_pos c8] at H
      have c8b0 : (t328 == t329) = true := c8
      (try (have c8b1 : decide (t328 = t329) = true := by simpa using c8))
      (try (have c8b2 : (t328 == t329) = true := by simpa using c8))
      clear c8
      replace H := Option.bind_eq_some_iff.mp H
      obtain ⟨t330, A90, H⟩ := H
      replace H : ((avocetref02_Signed.f a0 a1).bind fun t331 => (if t330 = t331 then ((ints_Value.f a0 a2).bind fun t332 => ((avocetref02_Value.f a0 a2).bind fun t333 => (some (t332 == t333)))) else (some false))) = some r := H
      have A9 := Aside0.mk A90
      clear A90
      replace H := Option.bind_eq_some_iff.mp H
      obtain ⟨t331, A100, H⟩ := H
      replace H : (if t330 = t331 then ((ints_Value.f a0 a2).bind fun t332 => ((avocetref02_Value.f a0 a2).bind fun t333 => (some (t332 == t333)))) else (some false)) = some r := H
      have A10 := Aside0.mk A100
      clear A100
      by_cases c11 : t330 = t331
      · rw [if_pos c11] at H
        have c11b0 : (t330 == t331) = true := beq_iff_eq.mpr c11
        have c11b1 : (t330 != t331) = false := bne_eq_false_iff_eq.mpr c11
        clear c11
        replace H := Option.bind_eq_some_iff.mp H
        obtain ⟨t332, A120, H⟩ := H
        replace H : ((avocetref02_Value.f a0 a2).bind fun t333 => (some (t332 == t333))) = some r := H
        have A12 := Aside0.mk A120
        clear A120
        replace H := Option.bind_eq_some_iff.mp H
        obtain ⟨t333, A130, H⟩ := H
        replace H : (some (t332 == t333)) = some r := H
        have A13 := Aside0.mk A130
        clear A130
        obtain rfl := Option.some.inj H
        go_enter Tryd.func10, Tryd.ntmps10
        go_wp2_with (first | ((with_reducible refine gate_callee (f := 13) rfl ?_); refine goesL_ (some 8) rfl rfl Tryd.func13 (by kernel_rfl) rfl #[] rfl (by (try simp only [List.map_toArray, List.map_cons, List.map_nil]); first | done | rfl | (simp only [List.length_drop, List.length_take]; rfl)) ?_; (with_reducible refine (avocetlaw02_awake.calls k  true _ ?side1 A4.out).mono ?_); (case side1 => first | exact Globs.below HG.out HB.out | exact Globs.below HG.out (by repeat (first | (with_reducible first | exact HB.out | apply below_alloc | apply pw_below_drewN | apply below_drew1) | exact HB.out)) | (repeat (first | exact HG.out | (with_reducible refine Globs.alloc ?_ _) | (with_reducible refine Globs.drewN ?_ _) | (with_reducible refine Globs.drew ?_)))); rintro e w14 ⟨rfl, hb⟩; refine ⟨_, rfl, ?_⟩; have n0_ := Aside0.mk (below_step (by repeat (first | (with_reducible first | exact HB.out | apply below_alloc | apply pw_below_drewN | apply below_drew1) | exact HB.out)) hb); clear HB; have HB := n0_; clear n0_; (try clear hb); (try clear hb2); (try clear hk); (try clear hi)) | (go_at_call 17; (with_reducible refine (ints_Fits.calls a0 a1 t328 _ A6.out).mono ?_); rintro e w' ⟨rfl, ⟨nd, rfl⟩⟩) | (go_at_call 22; (with_reducible refine (avocetref02_Fits.calls a0 a1 t329 _ A7.out).mono ?_); rintro e w' ⟨rfl, ⟨nd, rfl⟩⟩) | (go_at_call 21; (with_reducible refine (ints_Signed.calls a0 a1 t330 _ A9.out).mono ?_); rintro e w' ⟨rfl, ⟨nd, rfl⟩⟩) | (go_at_call 23; (with_reducible refine (avocetref02_Signed.calls a0 a1 t331 _ A10.out).mono ?_); rintro e w' ⟨rfl, ⟨nd, rfl⟩⟩) | (go_at_call 20; (with_reducible refine (ints_Value.calls a0 a2 t332 _ A12.out).mono ?_); rintro e w' ⟨rfl, ⟨nd, rfl⟩⟩) | (go_at_call 24; (with_reducible refine (avocetref02_Value.calls a0 a2 t333 _ A13.out).mono ?_); rintro e w' ⟨rfl, ⟨nd, rfl⟩⟩))
        go_ret
        exact ⟨by first | rfl | (simp [errW_none, errW_some] <;> rfl) | (simp [*, errW_none, errW_some] <;> rfl), by repeat (first | (with_reducible first | exact HB.out | apply below_alloc | apply pw_below_drewN | apply below_drew1) | exact HB.out)⟩
      · rw [if_neg c11] at H
        have c11b0 : (t330 == t331) = false := beq_eq_false_iff_ne.mpr c11
        have c11b1 : (t330 != t331) = true := bne_iff_ne.mpr c11
        exact absurd ((Option.some.inj H).trans HRT_.out) (by decide)
    · rw [if_neg c8] at H
      have c8b0 : (t328 == t329) = false := by simpa using c8
      (try (have c8b1 : decide (t328 = t329) = false := by simpa using c8))
      (try (have c8b2 : (t328 == t329) = false := by simpa using c8))
      (try (have c8b3 : ¬ (t328 = t329) := by simpa using c8))
      clear c8
      exact absurd ((Option.some.inj H).trans HRT_.out) (by decide)
  · replace c5 := Bool.eq_false_iff.mpr c5
    subst c5
    have H1 : (some false) = some r := by rw [if_neg (show ¬ (false = true) by decide)] at H; exact H
    clear H
    have H := H1
    clear H1
    exact absurd ((Option.some.inj H).trans HRT_.out) (by decide)

/-- THE ONE PURE STATEMENT of avocetlaw02_IntsValues: yours. -/
def avocetlaw02_IntsValues.Pure : Prop := ∀ (a0 : Int) (a1 : Int) (a2 : Int), (Lit.int .u8 a0).wf = true → (Lit.int .u64 a1).wf = true → (Lit.int .i64 a2).wf = true → ∃ k, avocetlaw02_IntsValues.f k a0 a1 a2 = some true
theorem avocetlaw02_IntsValues.walk (P : avocetlaw02_IntsValues.Pure) (a0 : Int) (a1 : Int) (a2 : Int) (w : World) (hG : Globs w) (w0 : (Lit.int .u8 a0).wf = true) (w1 : (Lit.int .u64 a1).wf = true) (w2 : (Lit.int .i64 a2).wf = true) :
    Calls Tryd.prog 10 #[.int .u8 a0, .int .u64 a1, .int .i64 a2] w fun e w' => e = .returned (.bool true) ∧ Below w.heap.size w w' := by
  obtain ⟨k, h⟩ := P a0 a1 a2 w0 w1 w2
  refine (avocetlaw02_IntsValues.calls k a0 a1 a2 true w hG rfl h).mono ?_
  rintro e w' ⟨rfl, hd⟩
  exact ⟨rfl, hd⟩

/-! ### avocetlaw02_IntsWrap: function 11 -/
def avocetlaw02_IntsWrap.f (k : Nat) (a0 : Int) : Option (Bool) := (avocetlaw02_awake.f k).bind fun t334 => ((ints_One.f k 172 (Int.tmod a0 4294967296)).bind fun bt335 => ((ints_One.f k 173 (Int.tmod a0 4294967296)).bind fun bt337 => ((ints_One.f k 167 bt335.1).bind fun bt339 => ((ints_One.f k 167 bt337.1).bind fun bt341 => (if t334 = true then (if bt339.1 = (Int.tmod a0 4294967296) then (if bt341.1 = (Int.tmod a0 4294967296) then (if bt337.1 = (Int.tmod a0 4294967296) then ((ints_Signed.f 127 (Int.tmod a0 4294967296)).bind fun t343 => (if (wrap64 (bt335.1)) = t343 then ((ints_Value.f 127 (wrap64 (bt335.1))).bind fun t344 => (if t344 = (Int.tmod a0 4294967296) then ((ints_Fits.f 127 (Int.tmod a0 4294967296)).bind fun t345 => (some t345)) else (some false))) else (some false))) else (some false)) else (some false)) else (some false)) else (some false))))))
theorem avocetlaw02_IntsWrap.mono : ∀ a0 k, LeO (avocetlaw02_IntsWrap.f k a0) (avocetlaw02_IntsWrap.f (k + 1) a0) := by
  intro a0 k
  unfold avocetlaw02_IntsWrap.f
  repeat' first
      | (with_reducible exact avocetlaw02_awake.mono _)
      | (with_reducible exact ints_One.mono _ _ _)
      | (with_reducible exact LeO.refl _)
      | (with_reducible exact LeO.none _)
      | (with_reducible refine LeO.ite ?_ ?_)
      | (with_reducible refine LeO.bind ?_ (fun _ => ?_))
      | exact avocetlaw02_awake.mono _
      | exact ints_One.mono _ _ _
      | exact LeO.none _
      | refine LeO.ite ?_ ?_
      | refine LeO.bind ?_ (fun _ => ?_)
set_option maxHeartbeats 8000000 in
set_option maxRecDepth 100000 in
theorem avocetlaw02_IntsWrap.calls (k : Nat) (a0 : Int) (r : Bool) (w : World) (hG : Globs w) (hr_ : r = true) (h : avocetlaw02_IntsWrap.f k a0 = some r) :
    Calls Tryd.prog 11 #[.int .u64 a0] w fun e w' => e = .returned (.bool r) ∧ Below w.heap.size w w' := by
  have HRT_ := Aside0.mk hr_
  clear hr_
  have HG := Aside0.mk hG
  clear hG
  have HB := Aside0.mk (Below.refl w.heap.size w)
  have H : ((avocetlaw02_awake.f k).bind fun t334 => ((ints_One.f k 172 (Int.tmod a0 4294967296)).bind fun bt335 => ((ints_One.f k 173 (Int.tmod a0 4294967296)).bind fun bt337 => ((ints_One.f k 167 bt335.1).bind fun bt339 => ((ints_One.f k 167 bt337.1).bind fun bt341 => (if t334 = true then (if bt339.1 = (Int.tmod a0 4294967296) then (if bt341.1 = (Int.tmod a0 4294967296) then (if bt337.1 = (Int.tmod a0 4294967296) then ((ints_Signed.f 127 (Int.tmod a0 4294967296)).bind fun t343 => (if (wrap64 (bt335.1)) = t343 then ((ints_Value.f 127 (wrap64 (bt335.1))).bind fun t344 => (if t344 = (Int.tmod a0 4294967296) then ((ints_Fits.f 127 (Int.tmod a0 4294967296)).bind fun t345 => (some t345)) else (some false))) else (some false))) else (some false)) else (some false)) else (some false)) else (some false))))))) = some r := h
  clear h
  replace H := Option.bind_eq_some_iff.mp H
  obtain ⟨t334, A20, H⟩ := H
  replace H : ((ints_One.f k 172 (Int.tmod a0 4294967296)).bind fun bt335 => ((ints_One.f k 173 (Int.tmod a0 4294967296)).bind fun bt337 => ((ints_One.f k 167 bt335.1).bind fun bt339 => ((ints_One.f k 167 bt337.1).bind fun bt341 => (if t334 = true then (if bt339.1 = (Int.tmod a0 4294967296) then (if bt341.1 = (Int.tmod a0 4294967296) then (if bt337.1 = (Int.tmod a0 4294967296) then ((ints_Signed.f 127 (Int.tmod a0 4294967296)).bind fun t343 => (if (wrap64 (bt335.1)) = t343 then ((ints_Value.f 127 (wrap64 (bt335.1))).bind fun t344 => (if t344 = (Int.tmod a0 4294967296) then ((ints_Fits.f 127 (Int.tmod a0 4294967296)).bind fun t345 => (some t345)) else (some false))) else (some false))) else (some false)) else (some false)) else (some false)) else (some false)))))) = some r := H
  have A2 := Aside0.mk A20
  clear A20
  replace H := Option.bind_eq_some_iff.mp H
  obtain ⟨⟨t335, t336⟩, A30, H⟩ := H
  replace H : ((ints_One.f k 173 (Int.tmod a0 4294967296)).bind fun bt337 => ((ints_One.f k 167 t335).bind fun bt339 => ((ints_One.f k 167 bt337.1).bind fun bt341 => (if t334 = true then (if bt339.1 = (Int.tmod a0 4294967296) then (if bt341.1 = (Int.tmod a0 4294967296) then (if bt337.1 = (Int.tmod a0 4294967296) then ((ints_Signed.f 127 (Int.tmod a0 4294967296)).bind fun t343 => (if (wrap64 (t335)) = t343 then ((ints_Value.f 127 (wrap64 (t335))).bind fun t344 => (if t344 = (Int.tmod a0 4294967296) then ((ints_Fits.f 127 (Int.tmod a0 4294967296)).bind fun t345 => (some t345)) else (some false))) else (some false))) else (some false)) else (some false)) else (some false)) else (some false))))) = some r := H
  have A3 := Aside0.mk A30
  clear A30
  replace H := Option.bind_eq_some_iff.mp H
  obtain ⟨⟨t337, t338⟩, A40, H⟩ := H
  replace H : ((ints_One.f k 167 t335).bind fun bt339 => ((ints_One.f k 167 t337).bind fun bt341 => (if t334 = true then (if bt339.1 = (Int.tmod a0 4294967296) then (if bt341.1 = (Int.tmod a0 4294967296) then (if t337 = (Int.tmod a0 4294967296) then ((ints_Signed.f 127 (Int.tmod a0 4294967296)).bind fun t343 => (if (wrap64 (t335)) = t343 then ((ints_Value.f 127 (wrap64 (t335))).bind fun t344 => (if t344 = (Int.tmod a0 4294967296) then ((ints_Fits.f 127 (Int.tmod a0 4294967296)).bind fun t345 => (some t345)) else (some false))) else (some false))) else (some false)) else (some false)) else (some false)) else (some false)))) = some r := H
  have A4 := Aside0.mk A40
  clear A40
  replace H := Option.bind_eq_some_iff.mp H
  obtain ⟨⟨t339, t340⟩, A50, H⟩ := H
  replace H : ((ints_One.f k 167 t337).bind fun bt341 => (if t334 = true then (if t339 = (Int.tmod a0 4294967296) then (if bt341.1 = (Int.tmod a0 4294967296) then (if t337 = (Int.tmod a0 4294967296) then ((ints_Signed.f 127 (Int.tmod a0 4294967296)).bind fun t343 => (if (wrap64 (t335)) = t343 then ((ints_Value.f 127 (wrap64 (t335))).bind fun t344 => (if t344 = (Int.tmod a0 4294967296) then ((ints_Fits.f 127 (Int.tmod a0 4294967296)).bind fun t345 => (some t345)) else (some false))) else (some false))) else (some false)) else (some false)) else (some false)) else (some false))) = some r := H
  have A5 := Aside0.mk A50
  clear A50
  replace H := Option.bind_eq_some_iff.mp H
  obtain ⟨⟨t341, t342⟩, A60, H⟩ := H
  replace H : (if t334 = true then (if t339 = (Int.tmod a0 4294967296) then (if t341 = (Int.tmod a0 4294967296) then (if t337 = (Int.tmod a0 4294967296) then ((ints_Signed.f 127 (Int.tmod a0 4294967296)).bind fun t343 => (if (wrap64 (t335)) = t343 then ((ints_Value.f 127 (wrap64 (t335))).bind fun t344 => (if t344 = (Int.tmod a0 4294967296) then ((ints_Fits.f 127 (Int.tmod a0 4294967296)).bind fun t345 => (some t345)) else (some false))) else (some false))) else (some false)) else (some false)) else (some false)) else (some false)) = some r := H
  have A6 := Aside0.mk A60
  clear A60
  by_cases c7 : t334 = true
  · subst c7
    have H1 : (if t339 = (Int.tmod a0 4294967296) then (if t341 = (Int.tmod a0 4294967296) then (if t337 = (Int.tmod a0 4294967296) then ((ints_Signed.f 127 (Int.tmod a0 4294967296)).bind fun t343 => (if (wrap64 (t335)) = t343 then ((ints_Value.f 127 (wrap64 (t335))).bind fun t344 => (if t344 = (Int.tmod a0 4294967296) then ((ints_Fits.f 127 (Int.tmod a0 4294967296)).bind fun t345 => (some t345)) else (some false))) else (some false))) else (some false)) else (some false)) else (some false)) = some r := by rw [if_pos rfl] at H; exact H
    clear H
    have H := H1
    clear H1
    by_cases c8 : t339 = (Int.tmod a0 4294967296)
    · rw [if_pos c8] at H
      have c8b0 : (t339 == (Int.tmod a0 4294967296)) = true := beq_iff_eq.mpr c8
      have c8b1 : (t339 != (Int.tmod a0 4294967296)) = false := bne_eq_false_iff_eq.mpr c8
      clear c8
      by_cases c9 : t341 = (Int.tmod a0 4294967296)
      · rw [if_pos c9] at H
        have c9b0 : (t341 == (Int.tmod a0 4294967296)) = true := beq_iff_eq.mpr c9
        have c9b1 : (t341 != (Int.tmod a0 4294967296)) = false := bne_eq_false_iff_eq.mpr c9
        clear c9
        by_cases c10 : t337 = (Int.tmod a0 4294967296)
        · rw [if_pos c10] at H
          have c10b0 : (t337 == (Int.tmod a0 4294967296)) = true := beq_iff_eq.mpr c10
          have c10b1 : (t337 != (Int.tmod a0 4294967296)) = false := bne_eq_false_iff_eq.mpr c10
          clear c10
          replace H := Option.bind_eq_some_iff.mp H
          obtain ⟨t343, A110, H⟩ := H
          replace H : (if (wrap64 (t335)) = t343 then ((ints_Value.f 127 (wrap64 (t335))).bind fun t344 => (if t344 = (Int.tmod a0 4294967296) then ((ints_Fits.f 127 (Int.tmod a0 4294967296)).bind fun t345 => (some t345)) else (some false))) else (some false)) = some r := H
          have A11 := Aside0.mk A110
          clear A110
          by_cases c12 : (wrap64 (t335)) = t343
          · rw [if_pos c12] at H
            have c12b0 : ((wrap64 (t335)) == t343) = true := beq_iff_eq.mpr c12
            have c12b1 : ((wrap64 (t335)) != t343) = false := bne_eq_false_iff_eq.mpr c12
            clear c12
            replace H := Option.bind_eq_some_iff.mp H
            obtain ⟨t344, A130, H⟩ := H
            replace H : (if t344 = (Int.tmod a0 4294967296) then ((ints_Fits.f 127 (Int.tmod a0 4294967296)).bind fun t345 => (some t345)) else (some false)) = some r := H
            have A13 := Aside0.mk A130
            clear A130
            by_cases c14 : t344 = (Int.tmod a0 4294967296)
            · rw [if_pos c14] at H
              have c14b0 : (t344 == (Int.tmod a0 4294967296)) = true := beq_iff_eq.mpr c14
              have c14b1 : (t344 != (Int.tmod a0 4294967296)) = false := bne_eq_false_iff_eq.mpr c14
              clear c14
              replace H := Option.bind_eq_some_iff.mp H
              obtain ⟨t345, A150, H⟩ := H
              replace H : (some t345) = some r := H
              have A15 := Aside0.mk A150
              clear A150
              obtain rfl := Option.some.inj H
              go_enter Tryd.func11, Tryd.ntmps11
              go_wp2_with (first | ((with_reducible refine gate_callee (f := 13) rfl ?_); refine goesL_ (some 13) rfl rfl Tryd.func13 (by kernel_rfl) rfl #[] rfl (by (try simp only [List.map_toArray, List.map_cons, List.map_nil]); first | done | rfl | (simp only [List.length_drop, List.length_take]; rfl)) ?_; (with_reducible refine (avocetlaw02_awake.calls k  true _ ?side1 A2.out).mono ?_); (case side1 => first | exact Globs.below HG.out HB.out | exact Globs.below HG.out (by repeat (first | (with_reducible first | exact HB.out | apply below_alloc | apply pw_below_drewN | apply below_drew1) | exact HB.out)) | (repeat (first | exact HG.out | (with_reducible refine Globs.alloc ?_ _) | (with_reducible refine Globs.drewN ?_ _) | (with_reducible refine Globs.drew ?_)))); rintro e w16 ⟨rfl, hb⟩; refine ⟨_, rfl, ?_⟩; have n0_ := Aside0.mk (below_step (by repeat (first | (with_reducible first | exact HB.out | apply below_alloc | apply pw_below_drewN | apply below_drew1) | exact HB.out)) hb); clear HB; have HB := n0_; clear n0_; (try clear hb); (try clear hb2); (try clear hk); (try clear hi)) | ((with_reducible refine gate_callee (f := 15) rfl ?_); refine goesL_ (some 18) rfl rfl Tryd.func15 (by kernel_rfl) rfl #[.int .i64 172, .int .u64 (Int.tmod a0 4294967296)] rfl (by (try simp only [List.map_toArray, List.map_cons, List.map_nil]); first | done | rfl | (simp only [List.length_drop, List.length_take]; rfl)) ?_; (with_reducible refine (ints_One.calls k 172 (Int.tmod a0 4294967296) t335 t336 _ ?side1 A3.out).mono ?_); (case side1 => first | exact Globs.below HG.out HB.out | exact Globs.below HG.out (by repeat (first | (with_reducible first | exact HB.out | apply below_alloc | apply pw_below_drewN | apply below_drew1) | exact HB.out)) | (repeat (first | exact HG.out | (with_reducible refine Globs.alloc ?_ _) | (with_reducible refine Globs.drewN ?_ _) | (with_reducible refine Globs.drew ?_)))); rintro e w' ⟨rfl, ⟨nd, rfl⟩⟩; refine ⟨_, rfl, ?_⟩) | ((with_reducible refine gate_callee (f := 15) rfl ?_); refine goesL_ (some 23) rfl rfl Tryd.func15 (by kernel_rfl) rfl #[.int .i64 173, .int .u64 (Int.tmod a0 4294967296)] rfl (by (try simp only [List.map_toArray, List.map_cons, List.map_nil]); first | done | rfl | (simp only [List.length_drop, List.length_take]; rfl)) ?_; (with_reducible refine (ints_One.calls k 173 (Int.tmod a0 4294967296) t337 t338 _ ?side1 A4.out).mono ?_); (case side1 => first | exact Globs.below HG.out HB.out | exact Globs.below HG.out (by repeat (first | (with_reducible first | exact HB.out | apply below_alloc | apply pw_below_drewN | apply below_drew1) | exact HB.out)) | (repeat (first | exact HG.out | (with_reducible refine Globs.alloc ?_ _) | (with_reducible refine Globs.drewN ?_ _) | (with_reducible refine Globs.drew ?_)))); rintro e w' ⟨rfl, ⟨nd, rfl⟩⟩; refine ⟨_, rfl, ?_⟩) | ((with_reducible refine gate_callee (f := 15) rfl ?_); refine goesL_ (some 28) rfl rfl Tryd.func15 (by kernel_rfl) rfl #[.int .i64 167, .int .u64 t335] rfl (by (try simp only [List.map_toArray, List.map_cons, List.map_nil]); first | done | rfl | (simp only [List.length_drop, List.length_take]; rfl)) ?_; (with_reducible refine (ints_One.calls k 167 t335 t339 t340 _ ?side1 A5.out).mono ?_); (case side1 => first | exact Globs.below HG.out HB.out | exact Globs.below HG.out (by repeat (first | (with_reducible first | exact HB.out | apply below_alloc | apply pw_below_drewN | apply below_drew1) | exact HB.out)) | (repeat (first | exact HG.out | (with_reducible refine Globs.alloc ?_ _) | (with_reducible refine Globs.drewN ?_ _) | (with_reducible refine Globs.drew ?_)))); rintro e w' ⟨rfl, ⟨nd, rfl⟩⟩; refine ⟨_, rfl, ?_⟩) | ((with_reducible refine gate_callee (f := 15) rfl ?_); refine goesL_ (some 33) rfl rfl Tryd.func15 (by kernel_rfl) rfl #[.int .i64 167, .int .u64 t337] rfl (by (try simp only [List.map_toArray, List.map_cons, List.map_nil]); first | done | rfl | (simp only [List.length_drop, List.length_take]; rfl)) ?_; (with_reducible refine (ints_One.calls k 167 t337 t341 t342 _ ?side1 A6.out).mono ?_); (case side1 => first | exact Globs.below HG.out HB.out | exact Globs.below HG.out (by repeat (first | (with_reducible first | exact HB.out | apply below_alloc | apply pw_below_drewN | apply below_drew1) | exact HB.out)) | (repeat (first | exact HG.out | (with_reducible refine Globs.alloc ?_ _) | (with_reducible refine Globs.drewN ?_ _) | (with_reducible refine Globs.drew ?_)))); rintro e w' ⟨rfl, ⟨nd, rfl⟩⟩; refine ⟨_, rfl, ?_⟩) | (go_at_call 21; (with_reducible refine (ints_Signed.calls 127 (Int.tmod a0 4294967296) t343 _ A11.out).mono ?_); rintro e w' ⟨rfl, ⟨nd, rfl⟩⟩) | (go_at_call 20; (with_reducible refine (ints_Value.calls 127 (wrap64 (t335)) t344 _ A13.out).mono ?_); rintro e w' ⟨rfl, ⟨nd, rfl⟩⟩) | (go_at_call 17; (with_reducible refine (ints_Fits.calls 127 (Int.tmod a0 4294967296) t345 _ A15.out).mono ?_); rintro e w' ⟨rfl, ⟨nd, rfl⟩⟩))
              go_ret
              exact ⟨by first | rfl | (simp [errW_none, errW_some] <;> rfl) | (simp [*, errW_none, errW_some] <;> rfl), by repeat (first | (with_reducible first | exact HB.out | apply below_alloc | apply pw_below_drewN | apply below_drew1) | exact HB.out)⟩
            · rw [if_neg c14] at H
              have c14b0 : (t344 == (Int.tmod a0 4294967296)) = false := beq_eq_false_iff_ne.mpr c14
              have c14b1 : (t344 != (Int.tmod a0 4294967296)) = true := bne_iff_ne.mpr c14
              exact absurd ((Option.some.inj H).trans HRT_.out) (by decide)
          · rw [if_neg c12] at H
            have c12b0 : ((wrap64 (t335)) == t343) = false := beq_eq_false_iff_ne.mpr c12
            have c12b1 : ((wrap64 (t335)) != t343) = true := bne_iff_ne.mpr c12
            exact absurd ((Option.some.inj H).trans HRT_.out) (by decide)
        · rw [if_neg c10] at H
          have c10b0 : (t337 == (Int.tmod a0 4294967296)) = false := beq_eq_false_iff_ne.mpr c10
          have c10b1 : (t337 != (Int.tmod a0 4294967296)) = true := bne_iff_ne.mpr c10
          exact absurd ((Option.some.inj H).trans HRT_.out) (by decide)
      · rw [if_neg c9] at H
        have c9b0 : (t341 == (Int.tmod a0 4294967296)) = false := beq_eq_false_iff_ne.mpr c9
        have c9b1 : (t341 != (Int.tmod a0 4294967296)) = true := bne_iff_ne.mpr c9
        exact absurd ((Option.some.inj H).trans HRT_.out) (by decide)
    · rw [if_neg c8] at H
      have c8b0 : (t339 == (Int.tmod a0 4294967296)) = false := beq_eq_false_iff_ne.mpr c8
      have c8b1 : (t339 != (Int.tmod a0 4294967296)) = true := bne_iff_ne.mpr c8
      exact absurd ((Option.some.inj H).trans HRT_.out) (by decide)
  · replace c7 := Bool.eq_false_iff.mpr c7
    subst c7
    have H1 : (some false) = some r := by rw [if_neg (show ¬ (false = true) by decide)] at H; exact H
    clear H
    have H := H1
    clear H1
    exact absurd ((Option.some.inj H).trans HRT_.out) (by decide)

/-- THE ONE PURE STATEMENT of avocetlaw02_IntsWrap: yours. -/
def avocetlaw02_IntsWrap.Pure : Prop := ∀ (a0 : Int), (Lit.int .u64 a0).wf = true → ∃ k, avocetlaw02_IntsWrap.f k a0 = some true
theorem avocetlaw02_IntsWrap.walk (P : avocetlaw02_IntsWrap.Pure) (a0 : Int) (w : World) (hG : Globs w) (w0 : (Lit.int .u64 a0).wf = true) :
    Calls Tryd.prog 11 #[.int .u64 a0] w fun e w' => e = .returned (.bool true) ∧ Below w.heap.size w w' := by
  obtain ⟨k, h⟩ := P a0 w0
  refine (avocetlaw02_IntsWrap.calls k a0 true w hG rfl h).mono ?_
  rintro e w' ⟨rfl, hd⟩
  exact ⟨rfl, hd⟩

/-! ### avocetref02_of: function 45 -/
def avocetref02_of.f (a0 : Int) : Option (Int) := if a0 = 32 then (some 127) else (some 126)
set_option maxHeartbeats 8000000 in
set_option maxRecDepth 100000 in
theorem avocetref02_of.calls (a0 : Int) (r : Int) (w : World) (h : avocetref02_of.f a0 = some r) :
    Calls Tryd.prog 45 #[.int .i64 a0] w fun e w' => e = .returned (.int .u8 r) ∧ Drawn0 w w' := by
  have H : (if a0 = 32 then (some 127) else (some 126)) = some r := h
  clear h
  by_cases c2 : a0 = 32
  · rw [if_pos c2] at H
    have c2b0 : (a0 == 32) = true := beq_iff_eq.mpr c2
    have c2b1 : (a0 != 32) = false := bne_eq_false_iff_eq.mpr c2
    clear c2
    obtain rfl := Option.some.inj H
    go_enter Tryd.func45, Tryd.ntmps45
    go_wp2
    go_ret
    exact ⟨by first | rfl | (simp; done) | (simp [*]; done), by repeat (first | exact Drawn0.refl _ | apply Drawn0.step)⟩
  · rw [if_neg c2] at H
    have c2b0 : (a0 == 32) = false := beq_eq_false_iff_ne.mpr c2
    have c2b1 : (a0 != 32) = true := bne_iff_ne.mpr c2
    obtain rfl := Option.some.inj H
    go_enter Tryd.func45, Tryd.ntmps45
    go_wp2
    go_ret
    exact ⟨by first | rfl | (simp; done) | (simp [*]; done), by repeat (first | exact Drawn0.refl _ | apply Drawn0.step)⟩

/-! ### avocetref02_Shape: function 25 -/
def avocetref02_Shape.j0 : Nat → Int → Int → Bool → Option (List Int × Int × Bool)
  | 0, _, _, _ => none
  | k + 1, x5, x6, x16 => if x16 = true then (some ((([127] : List Int)), 126, true)) else (if x5 < 0 then (some (([] : List Int), 0, false)) else (if x5 = 0 then ((avocetref02_of.f x6).bind fun t354 => (some ((([t354] : List Int)), 127, true))) else (if x5 ≤ 10 then ((avocetref02_of.f x6).bind fun t358 => ((avocetref02_of.f x6).bind fun t359 => (some ((([t358, t359] : List Int)), 127, true)))) else (if x5 ≤ 13 then ((avocetref02_of.f x6).bind fun t363 => ((avocetref02_of.f x6).bind fun t367 => (some ((([t363] : List Int)), t367, true)))) else ((avocetref02_of.f x6).bind fun t368 => ((avocetref02_of.f x6).bind fun t369 => ((avocetref02_of.f x6).bind fun t373 => (some ((([t368, t369] : List Int)), t373, true)))))))))
def avocetref02_Shape.f (k : Nat) (a0 : Int) : Option (List Int × Int × Bool) := (avocetref02_kind.f k a0).bind fun bt346 => (if a0 = 167 then (some ((([126] : List Int)), 127, true)) else (if a0 = 172 then (avocetref02_Shape.j0 k bt346.1 bt346.2 true) else (avocetref02_Shape.j0 k bt346.1 bt346.2 (a0 == 173))))
theorem avocetref02_Shape.mono_l : ∀ k, (∀ y0 y1 y2, LeO (avocetref02_Shape.j0 k y0 y1 y2) (avocetref02_Shape.j0 (k + 1) y0 y1 y2))
  | 0 => fun _ _ _ r h => by simp [avocetref02_Shape.j0] at h
  | k + 1 => by
    have ih0 := avocetref02_Shape.mono_l k
    · intro y0 y1 y2
      unfold avocetref02_Shape.j0
      repeat' first
      | (with_reducible exact ih0 _ _ _)
      | (with_reducible exact avocetref02_kind.mono _ _)
      | (with_reducible exact LeO.refl _)
      | (with_reducible exact LeO.none _)
      | (with_reducible refine LeO.ite ?_ ?_)
      | (with_reducible refine LeO.bind ?_ (fun _ => ?_))
      | exact ih0 _ _ _
      | exact avocetref02_kind.mono _ _
      | exact LeO.none _
      | refine LeO.ite ?_ ?_
      | refine LeO.bind ?_ (fun _ => ?_)
theorem avocetref02_Shape.mono : ∀ a0 k, LeO (avocetref02_Shape.f k a0) (avocetref02_Shape.f (k + 1) a0) := by
  intro a0 k
  have ih0 := avocetref02_Shape.mono_l k
  unfold avocetref02_Shape.f
  repeat' first
      | (with_reducible exact ih0 _ _ _)
      | (with_reducible exact avocetref02_kind.mono _ _)
      | (with_reducible exact LeO.refl _)
      | (with_reducible exact LeO.none _)
      | (with_reducible refine LeO.ite ?_ ?_)
      | (with_reducible refine LeO.bind ?_ (fun _ => ?_))
      | exact ih0 _ _ _
      | exact avocetref02_kind.mono _ _
      | exact LeO.none _
      | refine LeO.ite ?_ ?_
      | refine LeO.bind ?_ (fun _ => ?_)
set_option maxHeartbeats 8000000 in
set_option maxRecDepth 100000 in
theorem avocetref02_Shape.calls (k : Nat) (a0 : Int) (r1 : List Int) (r2 : Int) (r3 : Bool) (w : World) (h : avocetref02_Shape.f k a0 = some (r1, r2, r3)) :
    Calls Tryd.prog 25 #[.int .i64 a0] w fun e w' => ∃ v0_ : Value, e = .returned (.tuple #[v0_, .int .u8 r2, .bool r3]) ∧ Kd.R (Kd.int .u8) 5 w' w.heap.size (fun _ => True) v0_ r1 ∧ Below w.heap.size w w' := by
  have HB := Aside0.mk (Below.refl w.heap.size w)
  have H : ((avocetref02_kind.f k a0).bind fun bt346 => (if a0 = 167 then (some ((([126] : List Int)), 127, true)) else (if a0 = 172 then (avocetref02_Shape.j0 k bt346.1 bt346.2 true) else (avocetref02_Shape.j0 k bt346.1 bt346.2 (a0 == 173))))) = some (r1, r2, r3) := h
  clear h
  replace H := Option.bind_eq_some_iff.mp H
  obtain ⟨⟨t346, t347⟩, A20, H⟩ := H
  replace H : (if a0 = 167 then (some ((([126] : List Int)), 127, true)) else (if a0 = 172 then (avocetref02_Shape.j0 k t346 t347 true) else (avocetref02_Shape.j0 k t346 t347 (a0 == 173)))) = some (r1, r2, r3) := H
  have A2 := Aside0.mk A20
  clear A20
  by_cases c3 : a0 = 167
  · rw [if_pos c3] at H
    have c3b0 : (a0 == 167) = true := beq_iff_eq.mpr c3
    have c3b1 : (a0 != 167) = false := bne_eq_false_iff_eq.mpr c3
    clear c3
    obtain ⟨y348, hy348⟩ : ∃ y_ : List Int, y_ = (([126] : List Int)) := ⟨_, rfl⟩
    replace H : (some (y348, 127, true)) = some (r1, r2, r3) := by first | (rw [hy348]; with_reducible exact H) | (have H2_ := (Option.bind_some _ _).symm.trans H; rw [hy348]; with_reducible exact H2_) | (have H2_ := (Option.bind_some _ _).symm.trans H; with_reducible exact H2_) | with_reducible exact H | (rw [hy348]; exact H) | exact H
    have Ny348 := Aside0.mk hy348
    clear hy348
    simp only [Option.some.injEq, Prod.mk.injEq] at H
    obtain ⟨rfl, rfl, rfl⟩ := H
    go_enter Tryd.func25, Tryd.ntmps25
    go_wp2_with (first | ((with_reducible refine gate_callee (f := 37) rfl ?_); refine goesL_ (some 9) rfl rfl Tryd.func37 (by kernel_rfl) rfl #[.int .i64 a0] rfl (by (try simp only [List.map_toArray, List.map_cons, List.map_nil]); first | done | rfl | (simp only [List.length_drop, List.length_take]; rfl)) ?_; (with_reducible refine (avocetref02_kind.calls k a0 t346 t347 _ A2.out).mono ?_); rintro e w' ⟨rfl, ⟨nd, rfl⟩⟩; refine ⟨_, rfl, ?_⟩) | ((with_reducible refine gate_dst (N := 15) rfl ?_); refine Kd.R_lit (Kd.int .u8) _ 5 ?hg (N := 15) ?hd (xs := ([126] : List Int)) (inner := [.int .u8 126]) (ok := fun _ => True) (okp := fun _ => True) ?hr ?hp (fun _ hk => hk) trivial (Below.refl _ _) (Nat.le_refl _) (by simp) ?_; (case hd => rfl); (case hg => rfl); (case hr => first | (go_simp; done) | (go_simp; rfl)); (case hp => exact (Reps.one (show Kd.M (Kd.int .u8) _ _ _ 126 [.int .u8 126] from rfl) (Reps.none _ _))); intro v349 w4 ho5 hb hg_ hnew_; clear hg_ hnew_; (first | rw [← Ny348.out] at ho5 | (simp only [Int.reduceToNat] at ho5; rw [← Ny348.out] at ho5)); have n0_ := Aside0.mk (Kd.R_lower ho5 (below_size (by repeat (first | (with_reducible first | exact HB.out | apply below_alloc | apply pw_below_drewN | apply below_drew1) | exact HB.out)))); have n1_ := Aside0.mk (below_step (by repeat (first | (with_reducible first | exact HB.out | apply below_alloc | apply pw_below_drewN | apply below_drew1) | exact HB.out)) hb); clear HB; have HO350 := n0_; have HB := n1_; clear n0_ n1_; clear hb ho5))
    go_ret3
    exact ⟨_, by first | rfl | (simp [errW_none, errW_some] <;> rfl) | (simp [*, errW_none, errW_some] <;> rfl), by (with_reducible repeat (first | apply Kd.R_alloc | apply Kd.R_drewN | apply Kd.R_drew)); exact HO350.out, by repeat (first | (with_reducible first | exact HB.out | apply below_alloc | apply pw_below_drewN | apply below_drew1) | exact HB.out)⟩
  · rw [if_neg c3] at H
    have c3b0 : (a0 == 167) = false := beq_eq_false_iff_ne.mpr c3
    have c3b1 : (a0 != 167) = true := bne_iff_ne.mpr c3
    have HC6 := Aside0.mk H
    clear H
    go_enter Tryd.func25, Tryd.ntmps25
    go_upto_region 4 with (first | ((with_reducible refine gate_callee (f := 37) rfl ?_); refine goesL_ (some 9) rfl rfl Tryd.func37 (by kernel_rfl) rfl #[.int .i64 a0] rfl (by (try simp only [List.map_toArray, List.map_cons, List.map_nil]); first | done | rfl | (simp only [List.length_drop, List.length_take]; rfl)) ?_; (with_reducible refine (avocetref02_kind.calls k a0 t346 t347 _ A2.out).mono ?_); rintro e w' ⟨rfl, ⟨nd, rfl⟩⟩; refine ⟨_, rfl, ?_⟩))
    (try simp only [Act.put, List.setIfInBounds_toArray, List.set_cons_zero, List.set_cons_succ])
    go_cut [16] (fun v16 wc => ∃ (kq : Nat) (x16_5 : Bool), v16 = .bool x16_5 ∧ Aside0 (avocetref02_Shape.j0 kq t346 t347 x16_5 = some (r1, r2, r3)) ∧ Aside0 (kq ≤ k) ∧ Aside0 (Below w.heap.size w wc))
    case first =>
      have H := HC6.out
      clear HC6
      by_cases c7 : a0 = 172
      · rw [if_pos c7] at H
        have c7b0 : (a0 == 172) = true := beq_iff_eq.mpr c7
        have c7b1 : (a0 != 172) = false := bne_eq_false_iff_eq.mpr c7
        clear c7
        (first | rw [c7b0] | (simp only [i64_w, i32_w]; rw [c7b0]) | skip)
        have H' := Aside0.mk H
        clear H
        go_wp2
        go_meet
        case rel => exact ⟨_, (true), (by first | rfl | (simp; done) | (simp [*]; done)), H', ⟨by first | omega | exact Nat.le_refl _⟩, ⟨by repeat (first | (with_reducible first | exact HB.out | apply below_alloc | apply pw_below_drewN | apply below_drew1) | exact HB.out)⟩⟩
      · rw [if_neg c7] at H
        have c7b0 : (a0 == 172) = false := beq_eq_false_iff_ne.mpr c7
        have c7b1 : (a0 != 172) = true := bne_iff_ne.mpr c7
        (first | rw [c7b0] | (simp only [i64_w, i32_w]; rw [c7b0]) | skip)
        have H' := Aside0.mk H
        clear H
        go_wp2
        go_meet
        case rel => exact ⟨_, ((a0 == 173)), (by first | rfl | (simp; done) | (simp [*]; done)), H', ⟨by first | omega | exact Nat.le_refl _⟩, ⟨by repeat (first | (with_reducible first | exact HB.out | apply below_alloc | apply pw_below_drewN | apply below_drew1) | exact HB.out)⟩⟩
    case rest =>
      clear HC6
      try clear c2
      try clear p2
      try clear c3
      try clear c3b0
      try clear c3b1
      try clear c7
      try clear c7b0
      try clear c7b1
      obtain ⟨kq, x16_5, rfl, HA, HJ5, HB⟩ := hcut
      cases kq with
      | zero => exact absurd HA.out (by simp [avocetref02_Shape.j0])
      | succ kj5 =>
        have H := HA.out
        clear HA
        simp only [avocetref02_Shape.j0] at H
        by_cases c8 : x16_5 = true
        · subst c8
          have H1 : (some ((([127] : List Int)), 126, true)) = some (r1, r2, r3) := by rw [if_pos rfl] at H; exact H
          clear H
          have H := H1
          clear H1
          obtain ⟨y351, hy351⟩ : ∃ y_ : List Int, y_ = (([127] : List Int)) := ⟨_, rfl⟩
          replace H : (some (y351, 126, true)) = some (r1, r2, r3) := by first | (rw [hy351]; with_reducible exact H) | (have H2_ := (Option.bind_some _ _).symm.trans H; rw [hy351]; with_reducible exact H2_) | (have H2_ := (Option.bind_some _ _).symm.trans H; with_reducible exact H2_) | with_reducible exact H | (rw [hy351]; exact H) | exact H
          have Ny351 := Aside0.mk hy351
          clear hy351
          simp only [Option.some.injEq, Prod.mk.injEq] at H
          obtain ⟨rfl, rfl, rfl⟩ := H
          go_wp2_with (first | ((with_reducible refine gate_dst (N := 23) rfl ?_); refine Kd.R_lit (Kd.int .u8) _ 5 ?hg (N := 23) ?hd (xs := ([127] : List Int)) (inner := [.int .u8 127]) (ok := fun _ => True) (okp := fun _ => True) ?hr ?hp (fun _ hk => hk) trivial (Below.refl _ _) (Nat.le_refl _) (by simp) ?_; (case hd => rfl); (case hg => rfl); (case hr => first | (go_simp; done) | (go_simp; rfl)); (case hp => exact (Reps.one (show Kd.M (Kd.int .u8) _ _ _ 127 [.int .u8 127] from rfl) (Reps.none _ _))); intro v352 w9 ho10 hb hg_ hnew_; clear hg_ hnew_; (first | rw [← Ny351.out] at ho10 | (simp only [Int.reduceToNat] at ho10; rw [← Ny351.out] at ho10)); have n0_ := Aside0.mk (Kd.R_lower ho10 (below_size (by repeat (first | (with_reducible first | exact HB.out | apply below_alloc | apply pw_below_drewN | apply below_drew1) | exact HB.out)))); have n1_ := Aside0.mk (below_step (by repeat (first | (with_reducible first | exact HB.out | apply below_alloc | apply pw_below_drewN | apply below_drew1) | exact HB.out)) hb); clear HB; have HO353 := n0_; have HB := n1_; clear n0_ n1_; clear hb ho10))
          go_ret3
          exact ⟨_, by first | rfl | (simp [errW_none, errW_some] <;> rfl) | (simp [*, errW_none, errW_some] <;> rfl), by (with_reducible repeat (first | apply Kd.R_alloc | apply Kd.R_drewN | apply Kd.R_drew)); exact HO353.out, by repeat (first | (with_reducible first | exact HB.out | apply below_alloc | apply pw_below_drewN | apply below_drew1) | exact HB.out)⟩
        · replace c8 := Bool.eq_false_iff.mpr c8
          subst c8
          have H1 : (if t346 < 0 then (some (([] : List Int), 0, false)) else (if t346 = 0 then ((avocetref02_of.f t347).bind fun t354 => (some ((([t354] : List Int)), 127, true))) else (if t346 ≤ 10 then ((avocetref02_of.f t347).bind fun t358 => ((avocetref02_of.f t347).bind fun t359 => (some ((([t358, t359] : List Int)), 127, true)))) else (if t346 ≤ 13 then ((avocetref02_of.f t347).bind fun t363 => ((avocetref02_of.f t347).bind fun t367 => (some ((([t363] : List Int)), t367, true)))) else ((avocetref02_of.f t347).bind fun t368 => ((avocetref02_of.f t347).bind fun t369 => ((avocetref02_of.f t347).bind fun t373 => (some ((([t368, t369] : List Int)), t373, true))))))))) = some (r1, r2, r3) := by rw [if_neg (show ¬ (false = true) by decide)] at H; exact H
          clear H
          have H := H1
          clear H1
          by_cases c11 : t346 < 0
          · rw [if_pos c11] at H
            have c11b0 : decide (t346 < 0) = true := decide_eq_true c11
            clear c11
            simp only [Option.some.injEq, Prod.mk.injEq] at H
            obtain ⟨rfl, rfl, rfl⟩ := H
            go_wp2
            go_ret3
            exact ⟨_, by first | rfl | (simp [errW_none, errW_some] <;> rfl) | (simp [*, errW_none, errW_some] <;> rfl), by first | exact Kd.R_nil _ _ _ _ _ | exact Kd.N_nil _ _ _ _ _ | exact Kd.V_nil _ _ _ _ _ | exact Kd.Q_nil _ _ _ _ _ | exact Kd.S_nil _ _ _ _ _, by repeat (first | (with_reducible first | exact HB.out | apply below_alloc | apply pw_below_drewN | apply below_drew1) | exact HB.out)⟩
          · rw [if_neg c11] at H
            have c11b0 : decide (t346 < 0) = false := decide_eq_false c11
            clear c11
            by_cases c12 : t346 = 0
            · rw [if_pos c12] at H
              have c12b0 : (t346 == 0) = true := beq_iff_eq.mpr c12
              have c12b1 : (t346 != 0) = false := bne_eq_false_iff_eq.mpr c12
              clear c12
              replace H := Option.bind_eq_some_iff.mp H
              obtain ⟨t354, A130, H⟩ := H
              replace H : (some ((([t354] : List Int)), 127, true)) = some (r1, r2, r3) := H
              have A13 := Aside0.mk A130
              clear A130
              obtain ⟨y355, hy355⟩ : ∃ y_ : List Int, y_ = (([t354] : List Int)) := ⟨_, rfl⟩
              replace H : (some (y355, 127, true)) = some (r1, r2, r3) := by first | (rw [hy355]; with_reducible exact H) | (have H2_ := (Option.bind_some _ _).symm.trans H; rw [hy355]; with_reducible exact H2_) | (have H2_ := (Option.bind_some _ _).symm.trans H; with_reducible exact H2_) | with_reducible exact H | (rw [hy355]; exact H) | exact H
              have Ny355 := Aside0.mk hy355
              clear hy355
              simp only [Option.some.injEq, Prod.mk.injEq] at H
              obtain ⟨rfl, rfl, rfl⟩ := H
              go_wp2_with (first | ((with_reducible refine gate_callee (f := 45) rfl ?_); refine goesL_ (some 31) rfl rfl Tryd.func45 (by kernel_rfl) rfl #[.int .i64 t347] rfl (by (try simp only [List.map_toArray, List.map_cons, List.map_nil]); first | done | rfl | (simp only [List.length_drop, List.length_take]; rfl)) ?_; (with_reducible refine (avocetref02_of.calls t347 t354 _ A13.out).mono ?_); rintro e w' ⟨rfl, ⟨nd, rfl⟩⟩; refine ⟨_, rfl, ?_⟩) | ((with_reducible refine gate_dst (N := 32) rfl ?_); refine Kd.R_lit (Kd.int .u8) _ 5 ?hg (N := 32) ?hd (xs := ([t354] : List Int)) (inner := [.int .u8 t354]) (ok := fun _ => True) (okp := fun _ => True) ?hr ?hp (fun _ hk => hk) trivial (Below.refl _ _) (Nat.le_refl _) (by simp) ?_; (case hd => rfl); (case hg => rfl); (case hr => first | (go_simp; done) | (go_simp; rfl)); (case hp => exact (Reps.one (show Kd.M (Kd.int .u8) _ _ _ t354 [.int .u8 t354] from rfl) (Reps.none _ _))); intro v356 w14 ho15 hb hg_ hnew_; clear hg_ hnew_; (first | rw [← Ny355.out] at ho15 | (simp only [Int.reduceToNat] at ho15; rw [← Ny355.out] at ho15)); have n0_ := Aside0.mk (Kd.R_lower ho15 (below_size (by repeat (first | (with_reducible first | exact HB.out | apply below_alloc | apply pw_below_drewN | apply below_drew1) | exact HB.out)))); have n1_ := Aside0.mk (below_step (by repeat (first | (with_reducible first | exact HB.out | apply below_alloc | apply pw_below_drewN | apply below_drew1) | exact HB.out)) hb); clear HB; have HO357 := n0_; have HB := n1_; clear n0_ n1_; clear hb ho15))
              go_ret3
              exact ⟨_, by first | rfl | (simp [errW_none, errW_some] <;> rfl) | (simp [*, errW_none, errW_some] <;> rfl), by (with_reducible repeat (first | apply Kd.R_alloc | apply Kd.R_drewN | apply Kd.R_drew)); exact HO357.out, by repeat (first | (with_reducible first | exact HB.out | apply below_alloc | apply pw_below_drewN | apply below_drew1) | exact HB.out)⟩
            · rw [if_neg c12] at H
              have c12b0 : (t346 == 0) = false := beq_eq_false_iff_ne.mpr c12
              have c12b1 : (t346 != 0) = true := bne_iff_ne.mpr c12
              by_cases c16 : t346 ≤ 10
              · rw [if_pos c16] at H
                have c16b0 : decide (t346 ≤ 10) = true := decide_eq_true c16
                clear c16
                replace H := Option.bind_eq_some_iff.mp H
                obtain ⟨t358, A170, H⟩ := H
                replace H : ((avocetref02_of.f t347).bind fun t359 => (some ((([t358, t359] : List Int)), 127, true))) = some (r1, r2, r3) := H
                have A17 := Aside0.mk A170
                clear A170
                replace H := Option.bind_eq_some_iff.mp H
                obtain ⟨t359, A180, H⟩ := H
                replace H : (some ((([t358, t359] : List Int)), 127, true)) = some (r1, r2, r3) := H
                have A18 := Aside0.mk A180
                clear A180
                obtain ⟨y360, hy360⟩ : ∃ y_ : List Int, y_ = (([t358, t359] : List Int)) := ⟨_, rfl⟩
                replace H : (some (y360, 127, true)) = some (r1, r2, r3) := by first | (rw [hy360]; with_reducible exact H) | (have H2_ := (Option.bind_some _ _).symm.trans H; rw [hy360]; with_reducible exact H2_) | (have H2_ := (Option.bind_some _ _).symm.trans H; with_reducible exact H2_) | with_reducible exact H | (rw [hy360]; exact H) | exact H
                have Ny360 := Aside0.mk hy360
                clear hy360
                simp only [Option.some.injEq, Prod.mk.injEq] at H
                obtain ⟨rfl, rfl, rfl⟩ := H
                go_wp2_with (first | ((with_reducible refine gate_callee (f := 45) rfl ?_); refine goesL_ (some 37) rfl rfl Tryd.func45 (by kernel_rfl) rfl #[.int .i64 t347] rfl (by (try simp only [List.map_toArray, List.map_cons, List.map_nil]); first | done | rfl | (simp only [List.length_drop, List.length_take]; rfl)) ?_; (with_reducible refine (avocetref02_of.calls t347 t358 _ A17.out).mono ?_); rintro e w' ⟨rfl, ⟨nd, rfl⟩⟩; refine ⟨_, rfl, ?_⟩) | ((with_reducible refine gate_callee (f := 45) rfl ?_); refine goesL_ (some 39) rfl rfl Tryd.func45 (by kernel_rfl) rfl #[.int .i64 t347] rfl (by (try simp only [List.map_toArray, List.map_cons, List.map_nil]); first | done | rfl | (simp only [List.length_drop, List.length_take]; rfl)) ?_; (with_reducible refine (avocetref02_of.calls t347 t359 _ A18.out).mono ?_); rintro e w' ⟨rfl, ⟨nd, rfl⟩⟩; refine ⟨_, rfl, ?_⟩) | ((with_reducible refine gate_dst (N := 40) rfl ?_); refine Kd.R_lit (Kd.int .u8) _ 5 ?hg (N := 40) ?hd (xs := ([t358, t359] : List Int)) (inner := [.int .u8 t358, .int .u8 t359]) (ok := fun _ => True) (okp := fun _ => True) ?hr ?hp (fun _ hk => hk) trivial (Below.refl _ _) (Nat.le_refl _) (by simp) ?_; (case hd => rfl); (case hg => rfl); (case hr => first | (go_simp; done) | (go_simp; rfl)); (case hp => exact (Reps.one (show Kd.M (Kd.int .u8) _ _ _ t358 [.int .u8 t358] from rfl) (Reps.one (show Kd.M (Kd.int .u8) _ _ _ t359 [.int .u8 t359] from rfl) (Reps.none _ _)))); intro v361 w19 ho20 hb hg_ hnew_; clear hg_ hnew_; (first | rw [← Ny360.out] at ho20 | (simp only [Int.reduceToNat] at ho20; rw [← Ny360.out] at ho20)); have n0_ := Aside0.mk (Kd.R_lower ho20 (below_size (by repeat (first | (with_reducible first | exact HB.out | apply below_alloc | apply pw_below_drewN | apply below_drew1) | exact HB.out)))); have n1_ := Aside0.mk (below_step (by repeat (first | (with_reducible first | exact HB.out | apply below_alloc | apply pw_below_drewN | apply below_drew1) | exact HB.out)) hb); clear HB; have HO362 := n0_; have HB := n1_; clear n0_ n1_; clear hb ho20))
                go_ret3
                exact ⟨_, by first | rfl | (simp [errW_none, errW_some] <;> rfl) | (simp [*, errW_none, errW_some] <;> rfl), by (with_reducible repeat (first | apply Kd.R_alloc | apply Kd.R_drewN | apply Kd.R_drew)); exact HO362.out, by repeat (first | (with_reducible first | exact HB.out | apply below_alloc | apply pw_below_drewN | apply below_drew1) | exact HB.out)⟩
              · rw [if_neg c16] at H
                have c16b0 : decide (t346 ≤ 10) = false := decide_eq_false c16
                clear c16
                by_cases c21 : t346 ≤ 13
                · rw [if_pos c21] at H
                  have c21b0 : decide (t346 ≤ 13) = true := decide_eq_true c21
                  clear c21
                  replace H := Option.bind_eq_some_iff.mp H
                  obtain ⟨t363, A220, H⟩ := H
                  replace H : ((avocetref02_of.f t347).bind fun t367 => (some ((([t363] : List Int)), t367, true))) = some (r1, r2, r3) := H
                  have A22 := Aside0.mk A220
                  clear A220
                  obtain ⟨y364, hy364⟩ : ∃ y_ : List Int, y_ = (([t363] : List Int)) := ⟨_, rfl⟩
                  replace H : ((avocetref02_of.f t347).bind fun t367 => (some (y364, t367, true))) = some (r1, r2, r3) := by first | (rw [hy364]; with_reducible exact H) | (have H2_ := (Option.bind_some _ _).symm.trans H; rw [hy364]; with_reducible exact H2_) | (have H2_ := (Option.bind_some _ _).symm.trans H; with_reducible exact H2_) | with_reducible exact H | (rw [hy364]; exact H) | exact H
                  have Ny364 := Aside0.mk hy364
                  clear hy364
                  replace H := Option.bind_eq_some_iff.mp H
                  obtain ⟨t367, A230, H⟩ := H
                  replace H : (some (y364, t367, true)) = some (r1, r2, r3) := H
                  have A23 := Aside0.mk A230
                  clear A230
                  simp only [Option.some.injEq, Prod.mk.injEq] at H
                  obtain ⟨rfl, rfl, rfl⟩ := H
                  go_wp2_with (first | ((with_reducible refine gate_callee (f := 45) rfl ?_); refine goesL_ (some 45) rfl rfl Tryd.func45 (by kernel_rfl) rfl #[.int .i64 t347] rfl (by (try simp only [List.map_toArray, List.map_cons, List.map_nil]); first | done | rfl | (simp only [List.length_drop, List.length_take]; rfl)) ?_; (with_reducible refine (avocetref02_of.calls t347 t363 _ A22.out).mono ?_); rintro e w' ⟨rfl, ⟨nd, rfl⟩⟩; refine ⟨_, rfl, ?_⟩) | ((with_reducible refine gate_dst (N := 46) rfl ?_); refine Kd.R_lit (Kd.int .u8) _ 5 ?hg (N := 46) ?hd (xs := ([t363] : List Int)) (inner := [.int .u8 t363]) (ok := fun _ => True) (okp := fun _ => True) ?hr ?hp (fun _ hk => hk) trivial (Below.refl _ _) (Nat.le_refl _) (by simp) ?_; (case hd => rfl); (case hg => rfl); (case hr => first | (go_simp; done) | (go_simp; rfl)); (case hp => exact (Reps.one (show Kd.M (Kd.int .u8) _ _ _ t363 [.int .u8 t363] from rfl) (Reps.none _ _))); intro v365 w24 ho25 hb hg_ hnew_; clear hg_ hnew_; (first | rw [← Ny364.out] at ho25 | (simp only [Int.reduceToNat] at ho25; rw [← Ny364.out] at ho25)); have n0_ := Aside0.mk (Kd.R_lower ho25 (below_size (by repeat (first | (with_reducible first | exact HB.out | apply below_alloc | apply pw_below_drewN | apply below_drew1) | exact HB.out)))); have n1_ := Aside0.mk (below_step (by repeat (first | (with_reducible first | exact HB.out | apply below_alloc | apply pw_below_drewN | apply below_drew1) | exact HB.out)) hb); clear HB; have HO366 := n0_; have HB := n1_; clear n0_ n1_; clear hb ho25) | ((with_reducible refine gate_callee (f := 45) rfl ?_); refine goesL_ (some 48) rfl rfl Tryd.func45 (by kernel_rfl) rfl #[.int .i64 t347] rfl (by (try simp only [List.map_toArray, List.map_cons, List.map_nil]); first | done | rfl | (simp only [List.length_drop, List.length_take]; rfl)) ?_; (with_reducible refine (avocetref02_of.calls t347 t367 _ A23.out).mono ?_); rintro e w' ⟨rfl, ⟨nd, rfl⟩⟩; refine ⟨_, rfl, ?_⟩))
                  go_ret3
                  exact ⟨_, by first | rfl | (simp [errW_none, errW_some] <;> rfl) | (simp [*, errW_none, errW_some] <;> rfl), by (with_reducible repeat (first | apply Kd.R_alloc | apply Kd.R_drewN | apply Kd.R_drew)); exact HO366.out, by repeat (first | (with_reducible first | exact HB.out | apply below_alloc | apply pw_below_drewN | apply below_drew1) | exact HB.out)⟩
                · rw [if_neg c21] at H
                  have c21b0 : decide (t346 ≤ 13) = false := decide_eq_false c21
                  clear c21
                  replace H := Option.bind_eq_some_iff.mp H
                  obtain ⟨t368, A260, H⟩ := H
                  replace H : ((avocetref02_of.f t347).bind fun t369 => ((avocetref02_of.f t347).bind fun t373 => (some ((([t368, t369] : List Int)), t373, true)))) = some (r1, r2, r3) := H
                  have A26 := Aside0.mk A260
                  clear A260
                  replace H := Option.bind_eq_some_iff.mp H
                  obtain ⟨t369, A270, H⟩ := H
                  replace H : ((avocetref02_of.f t347).bind fun t373 => (some ((([t368, t369] : List Int)), t373, true))) = some (r1, r2, r3) := H
                  have A27 := Aside0.mk A270
                  clear A270
                  obtain ⟨y370, hy370⟩ : ∃ y_ : List Int, y_ = (([t368, t369] : List Int)) := ⟨_, rfl⟩
                  replace H : ((avocetref02_of.f t347).bind fun t373 => (some (y370, t373, true))) = some (r1, r2, r3) := by first | (rw [hy370]; with_reducible exact H) | (have H2_ := (Option.bind_some _ _).symm.trans H; rw [hy370]; with_reducible exact H2_) | (have H2_ := (Option.bind_some _ _).symm.trans H; with_reducible exact H2_) | with_reducible exact H | (rw [hy370]; exact H) | exact H
                  have Ny370 := Aside0.mk hy370
                  clear hy370
                  replace H := Option.bind_eq_some_iff.mp H
                  obtain ⟨t373, A280, H⟩ := H
                  replace H : (some (y370, t373, true)) = some (r1, r2, r3) := H
                  have A28 := Aside0.mk A280
                  clear A280
                  simp only [Option.some.injEq, Prod.mk.injEq] at H
                  obtain ⟨rfl, rfl, rfl⟩ := H
                  go_wp2_with (first | ((with_reducible refine gate_callee (f := 45) rfl ?_); refine goesL_ (some 50) rfl rfl Tryd.func45 (by kernel_rfl) rfl #[.int .i64 t347] rfl (by (try simp only [List.map_toArray, List.map_cons, List.map_nil]); first | done | rfl | (simp only [List.length_drop, List.length_take]; rfl)) ?_; (with_reducible refine (avocetref02_of.calls t347 t368 _ A26.out).mono ?_); rintro e w' ⟨rfl, ⟨nd, rfl⟩⟩; refine ⟨_, rfl, ?_⟩) | ((with_reducible refine gate_callee (f := 45) rfl ?_); refine goesL_ (some 52) rfl rfl Tryd.func45 (by kernel_rfl) rfl #[.int .i64 t347] rfl (by (try simp only [List.map_toArray, List.map_cons, List.map_nil]); first | done | rfl | (simp only [List.length_drop, List.length_take]; rfl)) ?_; (with_reducible refine (avocetref02_of.calls t347 t369 _ A27.out).mono ?_); rintro e w' ⟨rfl, ⟨nd, rfl⟩⟩; refine ⟨_, rfl, ?_⟩) | ((with_reducible refine gate_dst (N := 53) rfl ?_); refine Kd.R_lit (Kd.int .u8) _ 5 ?hg (N := 53) ?hd (xs := ([t368, t369] : List Int)) (inner := [.int .u8 t368, .int .u8 t369]) (ok := fun _ => True) (okp := fun _ => True) ?hr ?hp (fun _ hk => hk) trivial (Below.refl _ _) (Nat.le_refl _) (by simp) ?_; (case hd => rfl); (case hg => rfl); (case hr => first | (go_simp; done) | (go_simp; rfl)); (case hp => exact (Reps.one (show Kd.M (Kd.int .u8) _ _ _ t368 [.int .u8 t368] from rfl) (Reps.one (show Kd.M (Kd.int .u8) _ _ _ t369 [.int .u8 t369] from rfl) (Reps.none _ _)))); intro v371 w29 ho30 hb hg_ hnew_; clear hg_ hnew_; (first | rw [← Ny370.out] at ho30 | (simp only [Int.reduceToNat] at ho30; rw [← Ny370.out] at ho30)); have n0_ := Aside0.mk (Kd.R_lower ho30 (below_size (by repeat (first | (with_reducible first | exact HB.out | apply below_alloc | apply pw_below_drewN | apply below_drew1) | exact HB.out)))); have n1_ := Aside0.mk (below_step (by repeat (first | (with_reducible first | exact HB.out | apply below_alloc | apply pw_below_drewN | apply below_drew1) | exact HB.out)) hb); clear HB; have HO372 := n0_; have HB := n1_; clear n0_ n1_; clear hb ho30) | ((with_reducible refine gate_callee (f := 45) rfl ?_); refine goesL_ (some 55) rfl rfl Tryd.func45 (by kernel_rfl) rfl #[.int .i64 t347] rfl (by (try simp only [List.map_toArray, List.map_cons, List.map_nil]); first | done | rfl | (simp only [List.length_drop, List.length_take]; rfl)) ?_; (with_reducible refine (avocetref02_of.calls t347 t373 _ A28.out).mono ?_); rintro e w' ⟨rfl, ⟨nd, rfl⟩⟩; refine ⟨_, rfl, ?_⟩))
                  go_ret3
                  exact ⟨_, by first | rfl | (simp [errW_none, errW_some] <;> rfl) | (simp [*, errW_none, errW_some] <;> rfl), by (with_reducible repeat (first | apply Kd.R_alloc | apply Kd.R_drewN | apply Kd.R_drew)); exact HO372.out, by repeat (first | (with_reducible first | exact HB.out | apply below_alloc | apply pw_below_drewN | apply below_drew1) | exact HB.out)⟩

/-! ### avocetlaw02_IntsShape: function 12 -/
def avocetlaw02_IntsShape.f (k : Nat) (a0 : Int) : Option (Bool) := (avocetlaw02_awake.f k).bind fun t374 => ((ints_Shape.f a0).bind fun bt375 => ((avocetref02_Shape.f k a0).bind fun bt380 => (if t374 = true then (if (strOfNums bt375.1).toList = (strOfNums bt380.1).toList then (if bt375.2.1 = bt380.2.1 then (some (bt375.2.2 == bt380.2.2)) else (some false)) else (some false)) else (some false))))
theorem avocetlaw02_IntsShape.mono : ∀ a0 k, LeO (avocetlaw02_IntsShape.f k a0) (avocetlaw02_IntsShape.f (k + 1) a0) := by
  intro a0 k
  unfold avocetlaw02_IntsShape.f
  repeat' first
      | (with_reducible exact avocetlaw02_awake.mono _)
      | (with_reducible exact avocetref02_Shape.mono _ _)
      | (with_reducible exact LeO.refl _)
      | (with_reducible exact LeO.none _)
      | (with_reducible refine LeO.ite ?_ ?_)
      | (with_reducible refine LeO.bind ?_ (fun _ => ?_))
      | exact avocetlaw02_awake.mono _
      | exact avocetref02_Shape.mono _ _
      | exact LeO.none _
      | refine LeO.ite ?_ ?_
      | refine LeO.bind ?_ (fun _ => ?_)
set_option maxHeartbeats 8000000 in
set_option maxRecDepth 100000 in
theorem avocetlaw02_IntsShape.calls (k : Nat) (a0 : Int) (r : Bool) (w : World) (hG : Globs w) (hr_ : r = true) (h : avocetlaw02_IntsShape.f k a0 = some r) :
    Calls Tryd.prog 12 #[.int .i64 a0] w fun e w' => e = .returned (.bool r) ∧ Below w.heap.size w w' := by
  have HRT_ := Aside0.mk hr_
  clear hr_
  have HG := Aside0.mk hG
  clear hG
  have HB := Aside0.mk (Below.refl w.heap.size w)
  have H : ((avocetlaw02_awake.f k).bind fun t374 => ((ints_Shape.f a0).bind fun bt375 => ((avocetref02_Shape.f k a0).bind fun bt380 => (if t374 = true then (if (strOfNums bt375.1).toList = (strOfNums bt380.1).toList then (if bt375.2.1 = bt380.2.1 then (some (bt375.2.2 == bt380.2.2)) else (some false)) else (some false)) else (some false))))) = some r := h
  clear h
  replace H := Option.bind_eq_some_iff.mp H
  obtain ⟨t374, A20, H⟩ := H
  replace H : ((ints_Shape.f a0).bind fun bt375 => ((avocetref02_Shape.f k a0).bind fun bt380 => (if t374 = true then (if (strOfNums bt375.1).toList = (strOfNums bt380.1).toList then (if bt375.2.1 = bt380.2.1 then (some (bt375.2.2 == bt380.2.2)) else (some false)) else (some false)) else (some false)))) = some r := H
  have A2 := Aside0.mk A20
  clear A20
  replace H := Option.bind_eq_some_iff.mp H
  obtain ⟨⟨t375, t376, t377⟩, A30, H⟩ := H
  replace H : ((avocetref02_Shape.f k a0).bind fun bt380 => (if t374 = true then (if (strOfNums t375).toList = (strOfNums bt380.1).toList then (if t376 = bt380.2.1 then (some (t377 == bt380.2.2)) else (some false)) else (some false)) else (some false))) = some r := H
  have A3 := Aside0.mk A30
  clear A30
  replace H := Option.bind_eq_some_iff.mp H
  obtain ⟨⟨t380, t381, t382⟩, A40, H⟩ := H
  replace H : (if t374 = true then (if (strOfNums t375).toList = (strOfNums t380).toList then (if t376 = t381 then (some (t377 == t382)) else (some false)) else (some false)) else (some false)) = some r := H
  have A4 := Aside0.mk A40
  clear A40
  by_cases c5 : t374 = true
  · subst c5
    have H1 : (if (strOfNums t375).toList = (strOfNums t380).toList then (if t376 = t381 then (some (t377 == t382)) else (some false)) else (some false)) = some r := by rw [if_pos rfl] at H; exact H
    clear H
    have H := H1
    clear H1
    by_cases c6 : (strOfNums t375).toList = (strOfNums t380).toList
    · rw [if_pos c6] at H
      have c6b0 : ((strOfNums t375).toList == (strOfNums t380).toList) = true := beq_iff_eq.mpr c6
      have c6b1 : ((strOfNums t375).toList != (strOfNums t380).toList) = false := bne_eq_false_iff_eq.mpr c6
      clear c6
      by_cases c7 : t376 = t381
      · rw [if_pos c7] at H
        have c7b0 : (t376 == t381) = true := beq_iff_eq.mpr c7
        have c7b1 : (t376 != t381) = false := bne_eq_false_iff_eq.mpr c7
        clear c7
        obtain rfl := Option.some.inj H
        go_enter Tryd.func12, Tryd.ntmps12
        go_wp2_with (first | ((with_reducible refine gate_callee (f := 13) rfl ?_); refine goesL_ (some 10) rfl rfl Tryd.func13 (by kernel_rfl) rfl #[] rfl (by (try simp only [List.map_toArray, List.map_cons, List.map_nil]); first | done | rfl | (simp only [List.length_drop, List.length_take]; rfl)) ?_; (with_reducible refine (avocetlaw02_awake.calls k  true _ ?side1 A2.out).mono ?_); (case side1 => first | exact Globs.below HG.out HB.out | exact Globs.below HG.out (by repeat (first | (with_reducible first | exact HB.out | apply below_alloc | apply pw_below_drewN | apply below_drew1) | exact HB.out)) | (repeat (first | exact HG.out | (with_reducible refine Globs.alloc ?_ _) | (with_reducible refine Globs.drewN ?_ _) | (with_reducible refine Globs.drew ?_)))); rintro e w8 ⟨rfl, hb⟩; refine ⟨_, rfl, ?_⟩; have n0_ := Aside0.mk (below_step (by repeat (first | (with_reducible first | exact HB.out | apply below_alloc | apply pw_below_drewN | apply below_drew1) | exact HB.out)) hb); clear HB; have HB := n0_; clear n0_; (try clear hb); (try clear hb2); (try clear hk); (try clear hi)) | ((with_reducible refine gate_callee (f := 14) rfl ?_); refine goesL_ (some 13) rfl rfl Tryd.func14 (by kernel_rfl) rfl #[.int .i64 a0] rfl (by (try simp only [List.map_toArray, List.map_cons, List.map_nil]); first | done | rfl | (simp only [List.length_drop, List.length_take]; rfl)) ?_; (with_reducible refine (ints_Shape.calls a0 t375 t376 t377 _ A3.out).mono ?_); rintro e w9 ⟨v378, rfl, ho0, hb⟩; refine ⟨_, rfl, ?_⟩; have n0_ := Aside0.mk (Kd.R_lower ho0 (below_size (by repeat (first | (with_reducible first | exact HB.out | apply below_alloc | apply pw_below_drewN | apply below_drew1) | exact HB.out)))); have n1_ := Aside0.mk (below_step (by repeat (first | (with_reducible first | exact HB.out | apply below_alloc | apply pw_below_drewN | apply below_drew1) | exact HB.out)) hb); clear HB; have HO379 := n0_; have HB := n1_; clear n0_ n1_; (try clear hb); (try clear hb2); (try clear hk); (try clear hi); (try clear ho0)) | ((with_reducible refine gate_callee (f := 25) rfl ?_); refine goesL_ (some 19) rfl rfl Tryd.func25 (by kernel_rfl) rfl #[.int .i64 a0] rfl (by (try simp only [List.map_toArray, List.map_cons, List.map_nil]); first | done | rfl | (simp only [List.length_drop, List.length_take]; rfl)) ?_; (with_reducible refine (avocetref02_Shape.calls k a0 t380 t381 t382 _ A4.out).mono ?_); rintro e w10 ⟨v383, rfl, ho0, hb⟩; refine ⟨_, rfl, ?_⟩; have n0_ := Aside0.mk (Kd.R_elder' (by (with_reducible repeat (first | apply Kd.R_alloc | apply Kd.R_drewN | apply Kd.R_drew)); exact HO379.out) (Kd.R_base ho0) hb); have n1_ := Aside0.mk (Kd.R_lower (Kd.R_new' ho0 (Kd.R_lt (by (with_reducible repeat (first | apply Kd.R_alloc | apply Kd.R_drewN | apply Kd.R_drew)); exact HO379.out))) (below_size (by repeat (first | (with_reducible first | exact HB.out | apply below_alloc | apply pw_below_drewN | apply below_drew1) | exact HB.out)))); have n2_ := Aside0.mk (below_step (by repeat (first | (with_reducible first | exact HB.out | apply below_alloc | apply pw_below_drewN | apply below_drew1) | exact HB.out)) hb); clear HO379; clear HB; have HO379 := n0_; have HO384 := n1_; have HB := n2_; clear n0_ n1_ n2_; (try clear hb); (try clear hb2); (try clear hk); (try clear hi); (try clear ho0); have hcv11 := own_string (P := Tryd.prog) Tryd.underlying24 Tryd.underlying5 Tryd.underlying9 (Kd.own_of_R HO379.out); have hcv12 := own_string (P := Tryd.prog) Tryd.underlying24 Tryd.underlying5 Tryd.underlying9 (Kd.own_of_R HO384.out)))
        go_ret
        exact ⟨by first | rfl | (simp [errW_none, errW_some] <;> rfl) | (simp [*, errW_none, errW_some] <;> rfl), by repeat (first | (with_reducible first | exact HB.out | apply below_alloc | apply pw_below_drewN | apply below_drew1) | exact HB.out)⟩
      · rw [if_neg c7] at H
        have c7b0 : (t376 == t381) = false := beq_eq_false_iff_ne.mpr c7
        have c7b1 : (t376 != t381) = true := bne_iff_ne.mpr c7
        exact absurd ((Option.some.inj H).trans HRT_.out) (by decide)
    · rw [if_neg c6] at H
      have c6b0 : ((strOfNums t375).toList == (strOfNums t380).toList) = false := beq_eq_false_iff_ne.mpr c6
      have c6b1 : ((strOfNums t375).toList != (strOfNums t380).toList) = true := bne_iff_ne.mpr c6
      exact absurd ((Option.some.inj H).trans HRT_.out) (by decide)
  · replace c5 := Bool.eq_false_iff.mpr c5
    subst c5
    have H1 : (some false) = some r := by rw [if_neg (show ¬ (false = true) by decide)] at H; exact H
    clear H
    have H := H1
    clear H1
    exact absurd ((Option.some.inj H).trans HRT_.out) (by decide)

/-- THE ONE PURE STATEMENT of avocetlaw02_IntsShape: yours. -/
def avocetlaw02_IntsShape.Pure : Prop := ∀ (a0 : Int), (Lit.int .i64 a0).wf = true → ∃ k, avocetlaw02_IntsShape.f k a0 = some true
theorem avocetlaw02_IntsShape.walk (P : avocetlaw02_IntsShape.Pure) (a0 : Int) (w : World) (hG : Globs w) (w0 : (Lit.int .i64 a0).wf = true) :
    Calls Tryd.prog 12 #[.int .i64 a0] w fun e w' => e = .returned (.bool true) ∧ Below w.heap.size w w' := by
  obtain ⟨k, h⟩ := P a0 w0
  refine (avocetlaw02_IntsShape.calls k a0 true w hG rfl h).mono ?_
  rintro e w' ⟨rfl, hd⟩
  exact ⟨rfl, hd⟩

end Go.Proofs.YtjonlcnmpejamaaDoor.G
