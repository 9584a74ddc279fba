-- Made by gprint.py (mine) over the kit's print.py, out of the translation; parts of it typed by hand.
import Derived.Test.YtoeknjmdlmhajaaDoorG0
import Derived.Test.YtoeknjmdlmhajaaDoorG4
import Derived.Test.YtoeknjmdlmhajaaDoorG7
namespace Go.Proofs.YtoeknjmdlmhajaaDoor.G
open Go.RowKit Go.Proofs.YtoeknjmdlmhajaaDoorW.PrintWords Go.Proofs.YtoeknjmdlmhajaaDoorW.PrintLast Go.Proofs.YtoeknjmdlmhajaaDoorW.PrintMore
attribute [local go_sem] max2_int min2_int max_two min_two max_three min_three max_four min_four   -- for this text's walks alone
set_option linter.unusedVariables false
set_option linter.unusedSimpArgs false

/-! ### avocetref01_U: function 33 -/
def avocetref01_U.l0 : Nat → Int → List Int → Option (List Int)
  | 0, _, _ => none
  | k + 1, x1, x5 => if x1 ≥ 128 then (if x5.length < 140737488355328 then (avocetref01_U.l0 k (IntKind.u64.wrap (Int.tdiv x1 128)) (x5 ++ [(IntKind.u64.wrap (128 + (Int.tmod x1 128))) % 256])) else (none)) else (if x5.length < 140737488355328 then (some (x5 ++ [(x1) % 256])) else (none))
def avocetref01_U.f (k : Nat) (l0 : List Int) (a1 : Int) : Option (List Int) := (some (([] : List Int) : List Int)).bind fun y297 => (if y297.length + l0.length < 140737488355328 then (avocetref01_U.l0 k a1 (y297 ++ l0)) else (none))
theorem avocetref01_U.mono_l : ∀ k, (∀ y0 y1, LeO (avocetref01_U.l0 k y0 y1) (avocetref01_U.l0 (k + 1) y0 y1))
  | 0 => fun _ _ r h => by simp [avocetref01_U.l0] at h
  | k + 1 => by
    have ih0 := avocetref01_U.mono_l k
    · intro y0 y1
      unfold avocetref01_U.l0
      repeat' first
      | (with_reducible exact ih0 _ _)
      | (with_reducible exact LeO.refl _)
      | (with_reducible exact LeO.none _)
      | (with_reducible refine LeO.ite ?_ ?_)
      | (with_reducible refine LeO.bind ?_ (fun _ => ?_))
      | exact ih0 _ _
      | exact LeO.none _
      | refine LeO.ite ?_ ?_
      | refine LeO.bind ?_ (fun _ => ?_)
theorem avocetref01_U.mono : ∀ a0 a1 k, LeO (avocetref01_U.f k a0 a1) (avocetref01_U.f (k + 1) a0 a1) := by
  intro a0 a1 k
  have ih0 := avocetref01_U.mono_l k
  unfold avocetref01_U.f
  repeat' first
      | (with_reducible exact ih0 _ _)
      | (with_reducible exact LeO.refl _)
      | (with_reducible exact LeO.none _)
      | (with_reducible refine LeO.ite ?_ ?_)
      | (with_reducible refine LeO.bind ?_ (fun _ => ?_))
      | exact ih0 _ _
      | exact LeO.none _
      | refine LeO.ite ?_ ?_
      | refine LeO.bind ?_ (fun _ => ?_)
set_option maxHeartbeats 8000000 in
set_option maxRecDepth 100000 in
theorem avocetref01_U.calls (k : Nat) (A0 : Option Addr) (c0 : Nat) (l0 : List Int) (a1 : Int) (r : List Int) (w : World) (hr0 : Kd.C (Kd.int .u8) w A0 l0.length l0) (hc0 : l0.length ≤ c0) (h : avocetref01_U.f k l0 a1 = some r) :
    Calls Tryd.prog 33 #[.slice A0 l0.length c0, .int .u64 a1] w fun e w' => ∃ v0_ : Value, e = .returned (v0_) ∧ Kd.R (Kd.int .u8) 5 w' w.heap.size (fun _ => True) v0_ r ∧ Below w.heap.size w w' := by
  have HR0 := Aside0.mk hr0
  have HC0 := Aside0.mk hc0
  clear hr0 hc0
  have HB := Aside0.mk (Below.refl w.heap.size w)
  have H : ((some (([] : List Int) : List Int)).bind fun y297 => (if y297.length + l0.length < 140737488355328 then (avocetref01_U.l0 k a1 (y297 ++ l0)) else (none))) = some r := h
  clear h
  obtain ⟨y297, hy297⟩ : ∃ y_ : List Int, y_ = (([] : List Int)) := ⟨_, rfl⟩
  replace H : (if y297.length + l0.length < 140737488355328 then (avocetref01_U.l0 k a1 (y297 ++ l0)) else (none)) = some r := by first | (rw [hy297]; with_reducible exact H) | (have H2_ := (Option.bind_some _ _).symm.trans H; rw [hy297]; with_reducible exact H2_) | (have H2_ := (Option.bind_some _ _).symm.trans H; with_reducible exact H2_) | with_reducible exact H | (rw [hy297]; exact H) | exact H
  have Ny297 := Aside0.mk hy297
  clear hy297
  by_cases c3 : y297.length + l0.length < 140737488355328
  · rw [if_pos c3] at H
    have LMc3 := Aside0.mk c3
    clear c3
    obtain ⟨y300, hy300⟩ : ∃ y_ : List Int, y_ = (y297 ++ l0) := ⟨_, rfl⟩
    replace H : (avocetref01_U.l0 k a1 y300) = some r := by first | (rw [hy300]; with_reducible exact H) | (have H2_ := (Option.bind_some _ _).symm.trans H; rw [hy300]; with_reducible exact H2_) | (have H2_ := (Option.bind_some _ _).symm.trans H; with_reducible exact H2_) | with_reducible exact H | (rw [hy300]; exact H) | exact H
    have Ny300 := Aside0.mk hy300
    clear hy300
    have H' := Aside0.mk H
    clear H
    go_enter Tryd.func33, Tryd.ntmps33
    go_wp2_with (first | ((with_reducible refine gate_dst (N := 6) rfl ?_); refine Kd.R_lit (Kd.int .u8) _ 5 ?hg (N := 6) ?hd (xs := ([] : List Int)) (inner := []) (ok := fun _ => True) (okp := fun _ => True) ?hr ?hp (fun _ hk => hk) trivial (Below.refl _ _) (Nat.le_refl _) (by simp) ?_; (case hd => rfl); (case hg => rfl); (case hr => first | (go_simp; done) | (go_simp; rfl) | (go_simp; simp only [u8tail]; done)); (case hp => exact (Reps.none _ _)); intro v298 w4 ho5 hb hg_ hnew_; clear hg_ hnew_; (first | rw [← Ny297.out] at ho5 | (simp only [Int.reduceToNat] at ho5; rw [← Ny297.out] at ho5)); have n0_ := Aside0.mk (Kd.R_lower ho5 (below_size (by repeat (first | (with_reducible first | exact HB.out | apply below_alloc | apply pw_below_drewN | apply below_drew1) | exact HB.out)))); have n1_ := Aside0.mk (below_step (by repeat (first | (with_reducible first | exact HB.out | apply below_alloc | apply pw_below_drewN | apply below_drew1) | exact HB.out)) hb); clear HB; have HO299 := n0_; have HB := n1_; clear n0_ n1_; clear hb ho5) | ((with_reducible refine gate_builtin (b := .append) (xs := #[.tmp 6, .tmp 7]) rfl ?_); at_builtin; refine Kd.R_append_rows (Kd.int .u8) (w0 := w) w.heap.size rfl (.tmp 6) (.tmp 7) 25 5 (.int .u8 0) 1 rfl Tryd.underlying25 info5 rfl (by decide) (by omega) v298 y297 l0 _ _ _ (fun _ => True) (fun _ => False) rfl rfl ?aO ?aR (fun _ _ h => h) (fun _ h => h.elim) ?aF ?aB ?aS ?aL ?_; (case aR => repeat (first | exact (Kd.C_below HR0.out HB.out) | (with_reducible refine Kd.C_alloc ?_ _) | (with_reducible refine Kd.C_drewN ?_ _) | (with_reducible refine Kd.C_drew ?_))); (case aB => exact (by repeat (first | (with_reducible first | exact HB.out | apply below_alloc | apply pw_below_drewN | apply below_drew1) | exact HB.out))); (case aF => exact (fun _ _ => trivial)); (case aO => exact (by (with_reducible repeat (first | apply Kd.R_alloc | apply Kd.R_drewN | apply Kd.R_drew)); exact HO299.out)); (case aS => exact (below_size (by repeat (first | (with_reducible first | exact HB.out | apply below_alloc | apply pw_below_drewN | apply below_drew1) | exact HB.out)))); (case aL => have := LMc3.out; omega); intro v301 w6 ho hb hg hat; rw [← Ny300.out] at ho; have n0_ := Aside0.mk (hb); have n1_ := Aside0.mk (ho); clear HB; clear HO299; have HB := n0_; have HO302 := n1_; clear n0_ n1_; clear ho hb hg hat))
    go_loopg [1, 5] k (fun kq v1 v5 w' => ∃ (x1_1 : Int) (x5_1 : List Int), v1 = .int .u64 x1_1 ∧ Aside0 (avocetref01_U.l0 kq x1_1 x5_1 = some r) ∧ Aside0 (kq ≤ k) ∧ Aside0 (Kd.R (Kd.int .u8) 5 w' w.heap.size (fun _ => True) v5 x5_1) ∧ Aside0 (Below w.heap.size w w'))
    case atStart => exact ⟨(a1), (y300), (by first | rfl | (simp; done) | (simp [*]; done)), H', ⟨Nat.le_refl _⟩, ⟨by (with_reducible repeat (first | apply Kd.R_alloc | apply Kd.R_drewN | apply Kd.R_drew)); exact HO302.out⟩, ⟨by repeat (first | (with_reducible first | exact HB.out | apply below_alloc | apply pw_below_drewN | apply below_drew1) | exact HB.out)⟩⟩
    case round =>
      clear H'
      try clear p2
      try clear c3
      obtain ⟨x1_1, x5_1, rfl, HA, HK1, HO_5, HB⟩ := hrel
      cases gk with
      | zero => exact absurd HA.out (by simp [avocetref01_U.l0])
      | succ k1 =>
        have H := HA.out
        clear HA
        simp only [avocetref01_U.l0] at H
        by_cases c7 : x1_1 ≥ 128
        · rw [if_pos c7] at H
          have c7b0 : decide (128 ≤ x1_1) = true := decide_eq_true c7
          clear c7
          by_cases c8 : x5_1.length < 140737488355328
          · rw [if_pos c8] at H
            have LMc8 := Aside0.mk c8
            clear c8
            obtain ⟨y303, hy303⟩ : ∃ y_ : List Int, y_ = (x5_1 ++ [(IntKind.u64.wrap (128 + (Int.tmod x1_1 128))) % 256]) := ⟨_, rfl⟩
            replace H : (avocetref01_U.l0 k1 (IntKind.u64.wrap (Int.tdiv x1_1 128)) y303) = some r := by first | (rw [hy303]; with_reducible exact H) | (have H2_ := (Option.bind_some _ _).symm.trans H; rw [hy303]; with_reducible exact H2_) | (have H2_ := (Option.bind_some _ _).symm.trans H; with_reducible exact H2_) | with_reducible exact H | (rw [hy303]; exact H) | exact H
            have Ny303 := Aside0.mk hy303
            clear hy303
            have H' := Aside0.mk H
            clear H
            go_wp2_with (first | ((with_reducible refine gate_builtin (b := .append) (xs := #[.tmp 11, .tmp 16]) rfl ?_); at_builtin; refine Kd.R_append (Kd.int .u8) (w0 := w) w.heap.size rfl (.tmp 11) (.tmp 16) 25 5 (.int .u8 0) 1 rfl Tryd.underlying25 info5 rfl (by decide) (by omega) u5 x5_1 ((IntKind.u64.wrap (128 + (Int.tmod x1_1 128))) % 256) [.int .u8 ((IntKind.u64.wrap (128 + (Int.tmod x1_1 128))) % 256)] (fun _ => True) (fun _ => False) rfl rfl ?aP (fun _ hk => hk.elim) ?aF ?aO ?aB ?aS ?aL ?_; (case aP => exact rfl); (case aB => exact (by repeat (first | (with_reducible first | exact HB.out | apply below_alloc | apply pw_below_drewN | apply below_drew1) | exact HB.out))); (case aF => exact (fun _ _ => trivial)); (case aO => exact (by (with_reducible repeat (first | apply Kd.R_alloc | apply Kd.R_drewN | apply Kd.R_drew)); exact HO_5.out)); (case aS => exact (below_size (by repeat (first | (with_reducible first | exact HB.out | apply below_alloc | apply pw_below_drewN | apply below_drew1) | exact HB.out)))); (case aL => have := LMc8.out; omega); intro v304 w9 ho hb hg hat; rw [← Ny303.out] at ho; have n0_ := Aside0.mk (hb); have n1_ := Aside0.mk (ho); clear HB; clear HO_5; have HB := n0_; have HO305 := n1_; clear n0_ n1_; clear ho hb hg hat))
            go_roundg k1
            case measure => have := HK1.out; omega
            case rel => exact ⟨(IntKind.u64.wrap (Int.tdiv x1_1 128)), (y303), (by first | rfl | (simp; done) | (simp [*]; done)), H', ⟨by have := HK1.out; omega⟩, ⟨by (with_reducible repeat (first | apply Kd.R_alloc | apply Kd.R_drewN | apply Kd.R_drew)); exact HO305.out⟩, ⟨by repeat (first | (with_reducible first | exact HB.out | apply below_alloc | apply pw_below_drewN | apply below_drew1) | exact HB.out)⟩⟩
          · rw [if_neg c8] at H
            exact absurd H (by simp)
        · rw [if_neg c7] at H
          have c7b0 : decide (128 ≤ x1_1) = false := decide_eq_false c7
          clear c7
          by_cases c10 : x5_1.length < 140737488355328
          · rw [if_pos c10] at H
            have LMc10 := Aside0.mk c10
            clear c10
            obtain ⟨y306, hy306⟩ : ∃ y_ : List Int, y_ = (x5_1 ++ [(x1_1) % 256]) := ⟨_, rfl⟩
            replace H : (some y306) = some r := by first | (rw [hy306]; with_reducible exact H) | (have H2_ := (Option.bind_some _ _).symm.trans H; rw [hy306]; with_reducible exact H2_) | (have H2_ := (Option.bind_some _ _).symm.trans H; with_reducible exact H2_) | with_reducible exact H | (rw [hy306]; exact H) | exact H
            have Ny306 := Aside0.mk hy306
            clear hy306
            obtain rfl := Option.some.inj H
            go_wp2_with (first | ((with_reducible refine gate_builtin (b := .append) (xs := #[.tmp 20, .tmp 23]) rfl ?_); at_builtin; refine Kd.R_append (Kd.int .u8) (w0 := w) w.heap.size rfl (.tmp 20) (.tmp 23) 25 5 (.int .u8 0) 1 rfl Tryd.underlying25 info5 rfl (by decide) (by omega) u5 x5_1 ((x1_1) % 256) [.int .u8 ((x1_1) % 256)] (fun _ => True) (fun _ => False) rfl rfl ?aP (fun _ hk => hk.elim) ?aF ?aO ?aB ?aS ?aL ?_; (case aP => exact rfl); (case aB => exact (by repeat (first | (with_reducible first | exact HB.out | apply below_alloc | apply pw_below_drewN | apply below_drew1) | exact HB.out))); (case aF => exact (fun _ _ => trivial)); (case aO => exact (by (with_reducible repeat (first | apply Kd.R_alloc | apply Kd.R_drewN | apply Kd.R_drew)); exact HO_5.out)); (case aS => exact (below_size (by repeat (first | (with_reducible first | exact HB.out | apply below_alloc | apply pw_below_drewN | apply below_drew1) | exact HB.out)))); (case aL => have := LMc10.out; omega); intro v307 w11 ho hb hg hat; rw [← Ny306.out] at ho; have n0_ := Aside0.mk (hb); have n1_ := Aside0.mk (ho); clear HB; clear HO_5; have HB := n0_; have HO308 := n1_; clear n0_ n1_; clear ho hb hg hat))
            go_ret
            exact ⟨_, by first | rfl | (simp [errW_none, errW_some] <;> rfl) | (simp [*, errW_none, errW_some] <;> rfl), by (with_reducible repeat (first | apply Kd.R_alloc | apply Kd.R_drewN | apply Kd.R_drew)); exact HO308.out, by repeat (first | (with_reducible first | exact HB.out | apply below_alloc | apply pw_below_drewN | apply below_drew1) | exact HB.out)⟩
          · rw [if_neg c10] at H
            exact absurd H (by simp)
  · rw [if_neg c3] at H
    exact absurd H (by simp)

/-! ### avocetref07_Join: function 19 -/
def avocetref07_Join.l0 : Nat → List (S36) → Int → List Int → Int → Option (List Int × Int)
  | 0, _, _, _, _ => none
  | k + 1, x0, x4, x5, x6 => if x6 < (x0.length : Int) then (if 0 ≤ x6 then ((avocetref03_Name.f k ((rd_T36 x0 x6).f1) 0).bind fun bt314 => (if ((rd_T36 x0 x6).f0) < 0 then (some (([] : List Int), 1)) else (if ((rd_T36 x0 x6).f0) > 11 then (some (([] : List Int), 1)) else (if ((rd_T36 x0 x6).f0) = 0 then (if bt314.2.2 = 0 then (if ((rd_T36 x0 x6).f0) > 0 then (if ((rd_T36 x0 x6).f0) ≤ x4 then (some (([] : List Int), 1)) else (if x5.length < 140737488355328 then ((avocetref01_U.f k (x5 ++ [((rd_T36 x0 x6).f0) % 256]) (IntKind.u64.wrap ((((rd_T36 x0 x6).f1).length : Int)))).bind fun t320 => (if t320.length + ((rd_T36 x0 x6).f1).length < 140737488355328 then (avocetref07_Join.l0 k x0 (mx x4 ((rd_T36 x0 x6).f0)) (t320 ++ ((rd_T36 x0 x6).f1)) (wrap64 (x6 + 1))) else (none))) else (none))) else (if x5.length < 140737488355328 then ((avocetref01_U.f k (x5 ++ [((rd_T36 x0 x6).f0) % 256]) (IntKind.u64.wrap ((((rd_T36 x0 x6).f1).length : Int)))).bind fun t329 => (if t329.length + ((rd_T36 x0 x6).f1).length < 140737488355328 then (avocetref07_Join.l0 k x0 (mx x4 ((rd_T36 x0 x6).f0)) (t329 ++ ((rd_T36 x0 x6).f1)) (wrap64 (x6 + 1))) else (none))) else (none))) else (some (([] : List Int), 1))) else (if ((rd_T36 x0 x6).f0) > 0 then (if ((rd_T36 x0 x6).f0) ≤ x4 then (some (([] : List Int), 1)) else (if x5.length < 140737488355328 then ((avocetref01_U.f k (x5 ++ [((rd_T36 x0 x6).f0) % 256]) (IntKind.u64.wrap ((((rd_T36 x0 x6).f1).length : Int)))).bind fun t338 => (if t338.length + ((rd_T36 x0 x6).f1).length < 140737488355328 then (avocetref07_Join.l0 k x0 (mx x4 ((rd_T36 x0 x6).f0)) (t338 ++ ((rd_T36 x0 x6).f1)) (wrap64 (x6 + 1))) else (none))) else (none))) else (if x5.length < 140737488355328 then ((avocetref01_U.f k (x5 ++ [((rd_T36 x0 x6).f0) % 256]) (IntKind.u64.wrap ((((rd_T36 x0 x6).f1).length : Int)))).bind fun t347 => (if t347.length + ((rd_T36 x0 x6).f1).length < 140737488355328 then (avocetref07_Join.l0 k x0 (mx x4 ((rd_T36 x0 x6).f0)) (t347 ++ ((rd_T36 x0 x6).f1)) (wrap64 (x6 + 1))) else (none))) else (none))))))) else (none)) else (if (x5.length : Int) > 65536 then (some (([] : List Int), 4)) else (some (x5, 0)))
def avocetref07_Join.f (k : Nat) (l0 : List (S36)) : Option (List Int × Int) := (avocetref07_head.f).bind fun t309 => (avocetref07_Join.l0 k l0 0 t309 0)
theorem avocetref07_Join.mono_l : ∀ k, (∀ y0 y1 y2 y3, LeO (avocetref07_Join.l0 k y0 y1 y2 y3) (avocetref07_Join.l0 (k + 1) y0 y1 y2 y3))
  | 0 => fun _ _ _ _ r h => by simp [avocetref07_Join.l0] at h
  | k + 1 => by
    have ih0 := avocetref07_Join.mono_l k
    · intro y0 y1 y2 y3
      unfold avocetref07_Join.l0
      repeat' first
      | (with_reducible exact ih0 _ _ _ _)
      | (with_reducible exact avocetref01_U.mono _ _ _)
      | (with_reducible exact avocetref03_Name.mono _ _ _)
      | (with_reducible exact LeO.refl _)
      | (with_reducible exact LeO.none _)
      | (with_reducible refine LeO.ite ?_ ?_)
      | (with_reducible refine LeO.bind ?_ (fun _ => ?_))
      | exact ih0 _ _ _ _
      | exact avocetref01_U.mono _ _ _
      | exact avocetref03_Name.mono _ _ _
      | exact LeO.none _
      | refine LeO.ite ?_ ?_
      | refine LeO.bind ?_ (fun _ => ?_)
theorem avocetref07_Join.mono : ∀ a0 k, LeO (avocetref07_Join.f k a0) (avocetref07_Join.f (k + 1) a0) := by
  intro a0 k
  have ih0 := avocetref07_Join.mono_l k
  unfold avocetref07_Join.f
  repeat' first
      | (with_reducible exact ih0 _ _ _ _)
      | (with_reducible exact avocetref01_U.mono _ _ _)
      | (with_reducible exact avocetref03_Name.mono _ _ _)
      | (with_reducible exact LeO.refl _)
      | (with_reducible exact LeO.none _)
      | (with_reducible refine LeO.ite ?_ ?_)
      | (with_reducible refine LeO.bind ?_ (fun _ => ?_))
      | exact ih0 _ _ _ _
      | exact avocetref01_U.mono _ _ _
      | exact avocetref03_Name.mono _ _ _
      | exact LeO.none _
      | refine LeO.ite ?_ ?_
      | refine LeO.bind ?_ (fun _ => ?_)
set_option maxHeartbeats 8000000 in
set_option maxRecDepth 100000 in
theorem avocetref07_Join.calls (k : Nat) (A0 : Option Addr) (c0 : Nat) (l0 : List (S36)) (r1 : List Int) (r2 : Int) (w : World) (hr0 : Kd.C k36 w A0 l0.length l0) (hc0 : l0.length ≤ c0) (h : avocetref07_Join.f k l0 = some (r1, r2)) :
    Calls Tryd.prog 19 #[.slice A0 l0.length c0] w fun e w' => ∃ v0_ : Value, e = .returned (.tuple #[v0_, .int .i64 r2]) ∧ Kd.R (Kd.int .u8) 5 w' w.heap.size (fun _ => True) v0_ r1 ∧ Below w.heap.size w w' := by
  have hu36 := Tryd.underlying36
  have HR0 := Aside0.mk hr0
  have HC0 := Aside0.mk hc0
  clear hr0 hc0
  have HB := Aside0.mk (Below.refl w.heap.size w)
  have H : ((avocetref07_head.f).bind fun t309 => (avocetref07_Join.l0 k l0 0 t309 0)) = some (r1, r2) := h
  clear h
  replace H := Option.bind_eq_some_iff.mp H
  obtain ⟨t309, A20, H⟩ := H
  replace H : (avocetref07_Join.l0 k l0 0 t309 0) = some (r1, r2) := H
  have A2 := Aside0.mk A20
  clear A20
  have H' := Aside0.mk H
  clear H
  go_enter Tryd.func19, Tryd.ntmps19
  go_wp2_with (first | ((with_reducible refine gate_callee (f := 30) rfl ?_); refine goesL_ (some 11) rfl rfl Tryd.func30 (by kernel_rfl) rfl #[] rfl (by (try simp only [List.map_toArray, List.map_cons, List.map_nil]); first | done | rfl | (simp only [List.length_drop, List.length_take]; rfl)) ?_; (with_reducible refine (avocetref07_head.calls  t309 _ A2.out).mono ?_); rintro e w3 ⟨v310, rfl, ho0, hb⟩; refine ⟨_, rfl, ?_⟩; have n0_ := Aside0.mk (Kd.R_lower ho0 (below_size (by repeat (first | (with_reducible first | exact HB.out | apply below_alloc | apply pw_below_drewN | apply below_drew1) | exact HB.out)))); have n1_ := Aside0.mk (below_step (by repeat (first | (with_reducible first | exact HB.out | apply below_alloc | apply pw_below_drewN | apply below_drew1) | exact HB.out)) hb); clear HB; have HO311 := n0_; have HB := n1_; clear n0_ n1_; (try clear hb); (try clear hb2); (try clear hk); (try clear hi); (try clear ho0)))
  go_loopg [4, 5, 6] k (fun kq v4 v5 v6 w' => ∃ (x4_1 : Int) (x5_1 : List Int) (x6_1 : Int), v4 = .int .i64 x4_1 ∧ v6 = .int .i64 x6_1 ∧ Aside0 (avocetref07_Join.l0 kq l0 x4_1 x5_1 x6_1 = some (r1, r2)) ∧ Aside0 (kq ≤ k) ∧ Aside0 (Kd.R (Kd.int .u8) 5 w' w.heap.size (fun _ => True) v5 x5_1) ∧ Aside0 (Below w.heap.size w w'))
  case atStart => exact ⟨(0), (t309), (0), (by first | rfl | (simp; done) | (simp [*]; done)), (by first | rfl | (simp; done) | (simp [*]; done)), H', ⟨Nat.le_refl _⟩, ⟨by (with_reducible repeat (first | apply Kd.R_alloc | apply Kd.R_drewN | apply Kd.R_drew)); exact HO311.out⟩, ⟨by repeat (first | (with_reducible first | exact HB.out | apply below_alloc | apply pw_below_drewN | apply below_drew1) | exact HB.out)⟩⟩
  case round =>
    clear H'
    try clear c1
    try clear p2
    try clear c3
    obtain ⟨x4_1, x5_1, x6_1, rfl, rfl, HA, HK1, HO_5, HB⟩ := hrel
    cases gk with
    | zero => exact absurd HA.out (by simp [avocetref07_Join.l0])
    | succ k1 =>
      have H := HA.out
      clear HA
      simp only [avocetref07_Join.l0] at H
      by_cases c4 : x6_1 < (l0.length : Int)
      · rw [if_pos c4] at H
        have c4b0 : decide (x6_1 < (l0.length : Int)) = true := decide_eq_true c4
        clear c4
        by_cases c5 : 0 ≤ x6_1
        · rw [if_pos c5] at H
          have c5b0 : decide (0 ≤ x6_1) = true := decide_eq_true c5
          clear c5
          replace H := Option.bind_eq_some_iff.mp H
          obtain ⟨⟨t314, t315, t316⟩, A60, H⟩ := H
          replace H : (if ((rd_T36 l0 x6_1).f0) < 0 then (some (([] : List Int), 1)) else (if ((rd_T36 l0 x6_1).f0) > 11 then (some (([] : List Int), 1)) else (if ((rd_T36 l0 x6_1).f0) = 0 then (if t316 = 0 then (if ((rd_T36 l0 x6_1).f0) > 0 then (if ((rd_T36 l0 x6_1).f0) ≤ x4_1 then (some (([] : List Int), 1)) else (if x5_1.length < 140737488355328 then ((avocetref01_U.f k1 (x5_1 ++ [((rd_T36 l0 x6_1).f0) % 256]) (IntKind.u64.wrap ((((rd_T36 l0 x6_1).f1).length : Int)))).bind fun t320 => (if t320.length + ((rd_T36 l0 x6_1).f1).length < 140737488355328 then (avocetref07_Join.l0 k1 l0 (mx x4_1 ((rd_T36 l0 x6_1).f0)) (t320 ++ ((rd_T36 l0 x6_1).f1)) (wrap64 (x6_1 + 1))) else (none))) else (none))) else (if x5_1.length < 140737488355328 then ((avocetref01_U.f k1 (x5_1 ++ [((rd_T36 l0 x6_1).f0) % 256]) (IntKind.u64.wrap ((((rd_T36 l0 x6_1).f1).length : Int)))).bind fun t329 => (if t329.length + ((rd_T36 l0 x6_1).f1).length < 140737488355328 then (avocetref07_Join.l0 k1 l0 (mx x4_1 ((rd_T36 l0 x6_1).f0)) (t329 ++ ((rd_T36 l0 x6_1).f1)) (wrap64 (x6_1 + 1))) else (none))) else (none))) else (some (([] : List Int), 1))) else (if ((rd_T36 l0 x6_1).f0) > 0 then (if ((rd_T36 l0 x6_1).f0) ≤ x4_1 then (some (([] : List Int), 1)) else (if x5_1.length < 140737488355328 then ((avocetref01_U.f k1 (x5_1 ++ [((rd_T36 l0 x6_1).f0) % 256]) (IntKind.u64.wrap ((((rd_T36 l0 x6_1).f1).length : Int)))).bind fun t338 => (if t338.length + ((rd_T36 l0 x6_1).f1).length < 140737488355328 then (avocetref07_Join.l0 k1 l0 (mx x4_1 ((rd_T36 l0 x6_1).f0)) (t338 ++ ((rd_T36 l0 x6_1).f1)) (wrap64 (x6_1 + 1))) else (none))) else (none))) else (if x5_1.length < 140737488355328 then ((avocetref01_U.f k1 (x5_1 ++ [((rd_T36 l0 x6_1).f0) % 256]) (IntKind.u64.wrap ((((rd_T36 l0 x6_1).f1).length : Int)))).bind fun t347 => (if t347.length + ((rd_T36 l0 x6_1).f1).length < 140737488355328 then (avocetref07_Join.l0 k1 l0 (mx x4_1 ((rd_T36 l0 x6_1).f0)) (t347 ++ ((rd_T36 l0 x6_1).f1)) (wrap64 (x6_1 + 1))) else (none))) else (none)))))) = some (r1, r2) := H
          have A6 := Aside0.mk A60
          clear A60
          by_cases c7 : ((rd_T36 l0 x6_1).f0) < 0
          · rw [if_pos c7] at H
            have c7b0 : decide (((rd_T36 l0 x6_1).f0) < 0) = true := decide_eq_true c7
            clear c7
            simp only [Option.some.injEq, Prod.mk.injEq] at H
            obtain ⟨rfl, rfl⟩ := H
            have p312 : 0 ≤ (x6_1 : Int) := of_decide_eq_true (by first | (with_reducible assumption) | assumption)
            have q312 : x6_1 < (l0.length : Int) := of_decide_eq_true (by first | (with_reducible assumption) | assumption)
            obtain ⟨ad312, A312_1, c312_1, e312, hx312_0, hx312_1, hl312_1, hi312_1⟩ := at_T36 HR0.out x6_1 p312 q312
            cases e312
            replace hx312_0 := (HB.out.cell (World.block_lt_of_cell? w _ hx312_0)).trans hx312_0
            replace hx312_1 := (HB.out.cell (World.block_lt_of_cell? w _ hx312_1)).trans hx312_1
            have HR312_1 := Aside0.mk hi312_1
            have HC312_1 := Aside0.mk hl312_1
            clear hi312_1 hl312_1
            replace p312 := eq_true p312
            replace q312 := eq_true q312
            go_wp2_with (first | ((with_reducible refine gate_dst (N := 7) rfl ?_); refine box_event ?hg (N := 7) ?hd (cs := #[.int .i64 0, .slice none 0 0]) (t := 36) ?hr ?_; (case hd => rfl); (case hg => rfl); (case hr => first | (go_simp; done) | (go_simp; rfl)); intro gb313 hg w8 hbox hb; have n0_ := Aside0.mk (Kd.R_below (by (with_reducible repeat (first | apply Kd.R_alloc | apply Kd.R_drewN | apply Kd.R_drew)); exact HO_5.out) hb); have n1_ := Aside0.mk (below_step (by repeat (first | (with_reducible first | exact HB.out | apply below_alloc | apply pw_below_drewN | apply below_drew1) | exact HB.out)) hb); have n2_ := Aside0.mk (hbox); have n3_ := Aside0.mk ((by rw [hg]; exact (below_size (by repeat (first | (with_reducible first | exact HB.out | apply below_alloc | apply pw_below_drewN | apply below_drew1) | exact HB.out))) : w.heap.size ≤ gb313)); have n4_ := Aside0.mk ((by rw [hg]; exact (below_size (by repeat (first | (with_reducible first | exact HB.out | apply below_alloc | apply pw_below_drewN | apply below_drew1) | exact HB.out))) : w.heap.size ≤ gb313)); clear HO_5; clear HB; have HO_5 := n0_; have HB := n1_; have BK313 := n2_; have GW313 := n3_; have GE313 := n4_; clear n0_ n1_ n2_ n3_ n4_; clear hb hbox hg; have hcz9_0 : w8.cell? ⟨gb313, 0, none⟩ = some (.int .i64 0) := (blk_cell BK313.out 0).trans rfl; have hcz9_1 : w8.cell? ⟨gb313, 1, none⟩ = some (.slice none 0 0) := (blk_cell BK313.out 1).trans rfl; have hfz9_0 := blk_frozen BK313.out 0; have hfz9_1 := blk_frozen BK313.out 1) | ((with_reducible refine gate_callee (f := 32) rfl ?_); refine goesL_ (some 25) rfl rfl Tryd.func32 (by kernel_rfl) rfl #[.slice A312_1 ((rd_T36 l0 x6_1).f1).length c312_1, .int .i64 0] rfl (by (try simp only [List.map_toArray, List.map_cons, List.map_nil]); first | done | rfl | (simp only [List.length_drop, List.length_take]; rfl)) ?_; (with_reducible refine (avocetref03_Name.calls k1 _ _ ((rd_T36 l0 x6_1).f1) 0 t314 t315 t316 _ ?side1 ?side2 A6.out).mono ?_); (case side1 => exact Kd.C_below HR312_1.out (by repeat (first | (with_reducible first | exact HB.out | apply below_alloc | apply pw_below_drewN | apply below_drew1 | refine below_set ?_ GE313.out) | exact HB.out))); (case side2 => exact HC312_1.out); rintro e w10 ⟨rfl, hb⟩; refine ⟨_, rfl, ?_⟩; have n0_ := Aside0.mk (Kd.R_below (by (with_reducible repeat (first | apply Kd.R_alloc | apply Kd.R_drewN | apply Kd.R_drew)); exact (Kd.R_mono (Kd.R_far (p := ⟨gb313, 1, none⟩) (Kd.R_far (p := ⟨gb313, 0, none⟩) (Kd.R_types HO_5.out BK313.out (by decide)) (fun _ hk => hk.2) (.int .i64 ((rd_T36 l0 x6_1).f0))) (fun _ hk => hk.2) (.slice A312_1 ((rd_T36 l0 x6_1).f1).length c312_1)) (fun _ h_ => h_.1))) hb); have n1_ := Aside0.mk (blk_below (g := gb313) (o := .cells #[.int .i64 ((rd_T36 l0 x6_1).f0), .slice A312_1 ((rd_T36 l0 x6_1).f1).length c312_1] 36 (0, 0)) (by (with_reducible repeat (first | refine blk_drewN ?_ _ | refine blk_drew ?_ | refine blk_alloc ?_ _)); refine blk_put (cs := #[.int .i64 ((rd_T36 l0 x6_1).f0), .slice none 0 0]) ?_ 1 _ rfl; (with_reducible repeat (first | refine blk_drewN ?_ _ | refine blk_drew ?_ | refine blk_alloc ?_ _)); refine blk_put (cs := #[.int .i64 0, .slice none 0 0]) ?_ 0 _ rfl; (with_reducible repeat (first | refine blk_drewN ?_ _ | refine blk_drew ?_ | refine blk_alloc ?_ _)); exact BK313.out) hb); have n2_ := Aside0.mk (below_step (by repeat (first | (with_reducible first | exact HB.out | apply below_alloc | apply pw_below_drewN | apply below_drew1 | refine below_set ?_ GE313.out) | exact HB.out)) hb); clear HO_5; clear BK313; clear HB; have HO_5 := n0_; have BK313 := n1_; have HB := n2_; clear n0_ n1_ n2_; (try clear hb); (try clear hb2); (try clear hk); (try clear hi); have hcz11_0 : w10.cell? ⟨gb313, 0, none⟩ = some (.int .i64 ((rd_T36 l0 x6_1).f0)) := (blk_cell BK313.out 0).trans rfl; have hcz11_1 : w10.cell? ⟨gb313, 1, none⟩ = some (.slice A312_1 ((rd_T36 l0 x6_1).f1).length c312_1) := (blk_cell BK313.out 1).trans rfl; have hfz11_0 := blk_frozen BK313.out 0; have hfz11_1 := blk_frozen BK313.out 1))
            go_ret2
            exact ⟨_, by first | rfl | (simp [errW_none, errW_some] <;> rfl) | (simp [*, errW_none, errW_some] <;> rfl), by first | exact Kd.R_nil _ _ _ _ _ | exact Kd.N_nil _ _ _ _ _ | exact Kd.V_nil _ _ _ _ _ | exact Kd.Q_nil _ _ _ _ _ | exact Kd.S_nil _ _ _ _ _, by repeat (first | (with_reducible first | exact HB.out | apply below_alloc | apply pw_below_drewN | apply below_drew1 | refine below_set ?_ GE313.out) | exact HB.out)⟩
          · rw [if_neg c7] at H
            have c7b0 : decide (((rd_T36 l0 x6_1).f0) < 0) = false := decide_eq_false c7
            clear c7
            by_cases c12 : ((rd_T36 l0 x6_1).f0) > 11
            · rw [if_pos c12] at H
              have c12b0 : decide (11 < ((rd_T36 l0 x6_1).f0)) = true := decide_eq_true c12
              clear c12
              simp only [Option.some.injEq, Prod.mk.injEq] at H
              obtain ⟨rfl, rfl⟩ := H
              have p312 : 0 ≤ (x6_1 : Int) := of_decide_eq_true (by first | (with_reducible assumption) | assumption)
              have q312 : x6_1 < (l0.length : Int) := of_decide_eq_true (by first | (with_reducible assumption) | assumption)
              obtain ⟨ad312, A312_1, c312_1, e312, hx312_0, hx312_1, hl312_1, hi312_1⟩ := at_T36 HR0.out x6_1 p312 q312
              cases e312
              replace hx312_0 := (HB.out.cell (World.block_lt_of_cell? w _ hx312_0)).trans hx312_0
              replace hx312_1 := (HB.out.cell (World.block_lt_of_cell? w _ hx312_1)).trans hx312_1
              have HR312_1 := Aside0.mk hi312_1
              have HC312_1 := Aside0.mk hl312_1
              clear hi312_1 hl312_1
              replace p312 := eq_true p312
              replace q312 := eq_true q312
              go_wp2_with (first | ((with_reducible refine gate_dst (N := 7) rfl ?_); refine box_event ?hg (N := 7) ?hd (cs := #[.int .i64 0, .slice none 0 0]) (t := 36) ?hr ?_; (case hd => rfl); (case hg => rfl); (case hr => first | (go_simp; done) | (go_simp; rfl)); intro gb313 hg w13 hbox hb; have n0_ := Aside0.mk (Kd.R_below (by (with_reducible repeat (first | apply Kd.R_alloc | apply Kd.R_drewN | apply Kd.R_drew)); exact HO_5.out) hb); have n1_ := Aside0.mk (below_step (by repeat (first | (with_reducible first | exact HB.out | apply below_alloc | apply pw_below_drewN | apply below_drew1) | exact HB.out)) hb); have n2_ := Aside0.mk (hbox); have n3_ := Aside0.mk ((by rw [hg]; exact (below_size (by repeat (first | (with_reducible first | exact HB.out | apply below_alloc | apply pw_below_drewN | apply below_drew1) | exact HB.out))) : w.heap.size ≤ gb313)); have n4_ := Aside0.mk ((by rw [hg]; exact (below_size (by repeat (first | (with_reducible first | exact HB.out | apply below_alloc | apply pw_below_drewN | apply below_drew1) | exact HB.out))) : w.heap.size ≤ gb313)); clear HO_5; clear HB; have HO_5 := n0_; have HB := n1_; have BK313 := n2_; have GW313 := n3_; have GE313 := n4_; clear n0_ n1_ n2_ n3_ n4_; clear hb hbox hg; have hcz14_0 : w13.cell? ⟨gb313, 0, none⟩ = some (.int .i64 0) := (blk_cell BK313.out 0).trans rfl; have hcz14_1 : w13.cell? ⟨gb313, 1, none⟩ = some (.slice none 0 0) := (blk_cell BK313.out 1).trans rfl; have hfz14_0 := blk_frozen BK313.out 0; have hfz14_1 := blk_frozen BK313.out 1) | ((with_reducible refine gate_callee (f := 32) rfl ?_); refine goesL_ (some 25) rfl rfl Tryd.func32 (by kernel_rfl) rfl #[.slice A312_1 ((rd_T36 l0 x6_1).f1).length c312_1, .int .i64 0] rfl (by (try simp only [List.map_toArray, List.map_cons, List.map_nil]); first | done | rfl | (simp only [List.length_drop, List.length_take]; rfl)) ?_; (with_reducible refine (avocetref03_Name.calls k1 _ _ ((rd_T36 l0 x6_1).f1) 0 t314 t315 t316 _ ?side1 ?side2 A6.out).mono ?_); (case side1 => exact Kd.C_below HR312_1.out (by repeat (first | (with_reducible first | exact HB.out | apply below_alloc | apply pw_below_drewN | apply below_drew1 | refine below_set ?_ GE313.out) | exact HB.out))); (case side2 => exact HC312_1.out); rintro e w15 ⟨rfl, hb⟩; refine ⟨_, rfl, ?_⟩; have n0_ := Aside0.mk (Kd.R_below (by (with_reducible repeat (first | apply Kd.R_alloc | apply Kd.R_drewN | apply Kd.R_drew)); exact (Kd.R_mono (Kd.R_far (p := ⟨gb313, 1, none⟩) (Kd.R_far (p := ⟨gb313, 0, none⟩) (Kd.R_types HO_5.out BK313.out (by decide)) (fun _ hk => hk.2) (.int .i64 ((rd_T36 l0 x6_1).f0))) (fun _ hk => hk.2) (.slice A312_1 ((rd_T36 l0 x6_1).f1).length c312_1)) (fun _ h_ => h_.1))) hb); have n1_ := Aside0.mk (blk_below (g := gb313) (o := .cells #[.int .i64 ((rd_T36 l0 x6_1).f0), .slice A312_1 ((rd_T36 l0 x6_1).f1).length c312_1] 36 (0, 0)) (by (with_reducible repeat (first | refine blk_drewN ?_ _ | refine blk_drew ?_ | refine blk_alloc ?_ _)); refine blk_put (cs := #[.int .i64 ((rd_T36 l0 x6_1).f0), .slice none 0 0]) ?_ 1 _ rfl; (with_reducible repeat (first | refine blk_drewN ?_ _ | refine blk_drew ?_ | refine blk_alloc ?_ _)); refine blk_put (cs := #[.int .i64 0, .slice none 0 0]) ?_ 0 _ rfl; (with_reducible repeat (first | refine blk_drewN ?_ _ | refine blk_drew ?_ | refine blk_alloc ?_ _)); exact BK313.out) hb); have n2_ := Aside0.mk (below_step (by repeat (first | (with_reducible first | exact HB.out | apply below_alloc | apply pw_below_drewN | apply below_drew1 | refine below_set ?_ GE313.out) | exact HB.out)) hb); clear HO_5; clear BK313; clear HB; have HO_5 := n0_; have BK313 := n1_; have HB := n2_; clear n0_ n1_ n2_; (try clear hb); (try clear hb2); (try clear hk); (try clear hi); have hcz16_0 : w15.cell? ⟨gb313, 0, none⟩ = some (.int .i64 ((rd_T36 l0 x6_1).f0)) := (blk_cell BK313.out 0).trans rfl; have hcz16_1 : w15.cell? ⟨gb313, 1, none⟩ = some (.slice A312_1 ((rd_T36 l0 x6_1).f1).length c312_1) := (blk_cell BK313.out 1).trans rfl; have hfz16_0 := blk_frozen BK313.out 0; have hfz16_1 := blk_frozen BK313.out 1))
              go_ret2
              exact ⟨_, by first | rfl | (simp [errW_none, errW_some] <;> rfl) | (simp [*, errW_none, errW_some] <;> rfl), by first | exact Kd.R_nil _ _ _ _ _ | exact Kd.N_nil _ _ _ _ _ | exact Kd.V_nil _ _ _ _ _ | exact Kd.Q_nil _ _ _ _ _ | exact Kd.S_nil _ _ _ _ _, by repeat (first | (with_reducible first | exact HB.out | apply below_alloc | apply pw_below_drewN | apply below_drew1 | refine below_set ?_ GE313.out) | exact HB.out)⟩
            · rw [if_neg c12] at H
              have c12b0 : decide (11 < ((rd_T36 l0 x6_1).f0)) = false := decide_eq_false c12
              clear c12
              by_cases c17 : ((rd_T36 l0 x6_1).f0) = 0
              · rw [if_pos c17] at H
                have c17b0 : (((rd_T36 l0 x6_1).f0) == 0) = true := beq_iff_eq.mpr c17
                have c17b1 : (((rd_T36 l0 x6_1).f0) != 0) = false := bne_eq_false_iff_eq.mpr c17
                clear c17
                by_cases c18 : t316 = 0
                · rw [if_pos c18] at H
                  have c18b0 : (t316 == 0) = true := beq_iff_eq.mpr c18
                  have c18b1 : (t316 != 0) = false := bne_eq_false_iff_eq.mpr c18
                  clear c18
                  by_cases c19 : ((rd_T36 l0 x6_1).f0) > 0
                  · rw [if_pos c19] at H
                    have c19b0 : decide (0 < ((rd_T36 l0 x6_1).f0)) = true := decide_eq_true c19
                    clear c19
                    by_cases c20 : ((rd_T36 l0 x6_1).f0) ≤ x4_1
                    · rw [if_pos c20] at H
                      have c20b0 : decide (((rd_T36 l0 x6_1).f0) ≤ x4_1) = true := decide_eq_true c20
                      clear c20
                      simp only [Option.some.injEq, Prod.mk.injEq] at H
                      obtain ⟨rfl, rfl⟩ := H
                      have p312 : 0 ≤ (x6_1 : Int) := of_decide_eq_true (by first | (with_reducible assumption) | assumption)
                      have q312 : x6_1 < (l0.length : Int) := of_decide_eq_true (by first | (with_reducible assumption) | assumption)
                      obtain ⟨ad312, A312_1, c312_1, e312, hx312_0, hx312_1, hl312_1, hi312_1⟩ := at_T36 HR0.out x6_1 p312 q312
                      cases e312
                      replace hx312_0 := (HB.out.cell (World.block_lt_of_cell? w _ hx312_0)).trans hx312_0
                      replace hx312_1 := (HB.out.cell (World.block_lt_of_cell? w _ hx312_1)).trans hx312_1
                      have HR312_1 := Aside0.mk hi312_1
                      have HC312_1 := Aside0.mk hl312_1
                      clear hi312_1 hl312_1
                      replace p312 := eq_true p312
                      replace q312 := eq_true q312
                      go_wp2_with (first | ((with_reducible refine gate_dst (N := 7) rfl ?_); refine box_event ?hg (N := 7) ?hd (cs := #[.int .i64 0, .slice none 0 0]) (t := 36) ?hr ?_; (case hd => rfl); (case hg => rfl); (case hr => first | (go_simp; done) | (go_simp; rfl)); intro gb313 hg w21 hbox hb; have n0_ := Aside0.mk (Kd.R_below (by (with_reducible repeat (first | apply Kd.R_alloc | apply Kd.R_drewN | apply Kd.R_drew)); exact HO_5.out) hb); have n1_ := Aside0.mk (below_step (by repeat (first | (with_reducible first | exact HB.out | apply below_alloc | apply pw_below_drewN | apply below_drew1) | exact HB.out)) hb); have n2_ := Aside0.mk (hbox); have n3_ := Aside0.mk ((by rw [hg]; exact (below_size (by repeat (first | (with_reducible first | exact HB.out | apply below_alloc | apply pw_below_drewN | apply below_drew1) | exact HB.out))) : w.heap.size ≤ gb313)); have n4_ := Aside0.mk ((by rw [hg]; exact (below_size (by repeat (first | (with_reducible first | exact HB.out | apply below_alloc | apply pw_below_drewN | apply below_drew1) | exact HB.out))) : w.heap.size ≤ gb313)); clear HO_5; clear HB; have HO_5 := n0_; have HB := n1_; have BK313 := n2_; have GW313 := n3_; have GE313 := n4_; clear n0_ n1_ n2_ n3_ n4_; clear hb hbox hg; have hcz22_0 : w21.cell? ⟨gb313, 0, none⟩ = some (.int .i64 0) := (blk_cell BK313.out 0).trans rfl; have hcz22_1 : w21.cell? ⟨gb313, 1, none⟩ = some (.slice none 0 0) := (blk_cell BK313.out 1).trans rfl; have hfz22_0 := blk_frozen BK313.out 0; have hfz22_1 := blk_frozen BK313.out 1) | ((with_reducible refine gate_callee (f := 32) rfl ?_); refine goesL_ (some 25) rfl rfl Tryd.func32 (by kernel_rfl) rfl #[.slice A312_1 ((rd_T36 l0 x6_1).f1).length c312_1, .int .i64 0] rfl (by (try simp only [List.map_toArray, List.map_cons, List.map_nil]); first | done | rfl | (simp only [List.length_drop, List.length_take]; rfl)) ?_; (with_reducible refine (avocetref03_Name.calls k1 _ _ ((rd_T36 l0 x6_1).f1) 0 t314 t315 t316 _ ?side1 ?side2 A6.out).mono ?_); (case side1 => exact Kd.C_below HR312_1.out (by repeat (first | (with_reducible first | exact HB.out | apply below_alloc | apply pw_below_drewN | apply below_drew1 | refine below_set ?_ GE313.out) | exact HB.out))); (case side2 => exact HC312_1.out); rintro e w23 ⟨rfl, hb⟩; refine ⟨_, rfl, ?_⟩; have n0_ := Aside0.mk (Kd.R_below (by (with_reducible repeat (first | apply Kd.R_alloc | apply Kd.R_drewN | apply Kd.R_drew)); exact (Kd.R_mono (Kd.R_far (p := ⟨gb313, 1, none⟩) (Kd.R_far (p := ⟨gb313, 0, none⟩) (Kd.R_types HO_5.out BK313.out (by decide)) (fun _ hk => hk.2) (.int .i64 ((rd_T36 l0 x6_1).f0))) (fun _ hk => hk.2) (.slice A312_1 ((rd_T36 l0 x6_1).f1).length c312_1)) (fun _ h_ => h_.1))) hb); have n1_ := Aside0.mk (blk_below (g := gb313) (o := .cells #[.int .i64 ((rd_T36 l0 x6_1).f0), .slice A312_1 ((rd_T36 l0 x6_1).f1).length c312_1] 36 (0, 0)) (by (with_reducible repeat (first | refine blk_drewN ?_ _ | refine blk_drew ?_ | refine blk_alloc ?_ _)); refine blk_put (cs := #[.int .i64 ((rd_T36 l0 x6_1).f0), .slice none 0 0]) ?_ 1 _ rfl; (with_reducible repeat (first | refine blk_drewN ?_ _ | refine blk_drew ?_ | refine blk_alloc ?_ _)); refine blk_put (cs := #[.int .i64 0, .slice none 0 0]) ?_ 0 _ rfl; (with_reducible repeat (first | refine blk_drewN ?_ _ | refine blk_drew ?_ | refine blk_alloc ?_ _)); exact BK313.out) hb); have n2_ := Aside0.mk (below_step (by repeat (first | (with_reducible first | exact HB.out | apply below_alloc | apply pw_below_drewN | apply below_drew1 | refine below_set ?_ GE313.out) | exact HB.out)) hb); clear HO_5; clear BK313; clear HB; have HO_5 := n0_; have BK313 := n1_; have HB := n2_; clear n0_ n1_ n2_; (try clear hb); (try clear hb2); (try clear hk); (try clear hi); have hcz24_0 : w23.cell? ⟨gb313, 0, none⟩ = some (.int .i64 ((rd_T36 l0 x6_1).f0)) := (blk_cell BK313.out 0).trans rfl; have hcz24_1 : w23.cell? ⟨gb313, 1, none⟩ = some (.slice A312_1 ((rd_T36 l0 x6_1).f1).length c312_1) := (blk_cell BK313.out 1).trans rfl; have hfz24_0 := blk_frozen BK313.out 0; have hfz24_1 := blk_frozen BK313.out 1))
                      go_ret2
                      exact ⟨_, by first | rfl | (simp [errW_none, errW_some] <;> rfl) | (simp [*, errW_none, errW_some] <;> rfl), by first | exact Kd.R_nil _ _ _ _ _ | exact Kd.N_nil _ _ _ _ _ | exact Kd.V_nil _ _ _ _ _ | exact Kd.Q_nil _ _ _ _ _ | exact Kd.S_nil _ _ _ _ _, by repeat (first | (with_reducible first | exact HB.out | apply below_alloc | apply pw_below_drewN | apply below_drew1 | refine below_set ?_ GE313.out) | exact HB.out)⟩
                    · rw [if_neg c20] at H
                      have c20b0 : decide (((rd_T36 l0 x6_1).f0) ≤ x4_1) = false := decide_eq_false c20
                      clear c20
                      obtain ⟨ji25, hji25⟩ : ∃ j_ : Int, (mx x4_1 ((rd_T36 l0 x6_1).f0)) = j_ := ⟨_, rfl⟩
                      replace H : (if x5_1.length < 140737488355328 then ((avocetref01_U.f k1 (x5_1 ++ [((rd_T36 l0 x6_1).f0) % 256]) (IntKind.u64.wrap ((((rd_T36 l0 x6_1).f1).length : Int)))).bind fun t320 => (if t320.length + ((rd_T36 l0 x6_1).f1).length < 140737488355328 then (avocetref07_Join.l0 k1 l0 ji25 (t320 ++ ((rd_T36 l0 x6_1).f1)) (wrap64 (x6_1 + 1))) else (none))) else (none)) = some (r1, r2) := by first | (rw [hji25] at H; exact H) | (simp only [hji25] at H ⊢; exact H)
                      (try rw [hji25] at A6)
                      have hji25_ : (if x4_1 < ((rd_T36 l0 x6_1).f0) then ((rd_T36 l0 x6_1).f0) else x4_1) = ji25 := hji25
                      by_cases c26 : x5_1.length < 140737488355328
                      · rw [if_pos c26] at H
                        have LMc26 := Aside0.mk c26
                        clear c26
                        obtain ⟨y317, hy317⟩ : ∃ y_ : List Int, y_ = (x5_1 ++ [((rd_T36 l0 x6_1).f0) % 256]) := ⟨_, rfl⟩
                        replace H : ((avocetref01_U.f k1 y317 (IntKind.u64.wrap ((((rd_T36 l0 x6_1).f1).length : Int)))).bind fun t320 => (if t320.length + ((rd_T36 l0 x6_1).f1).length < 140737488355328 then (avocetref07_Join.l0 k1 l0 ji25 (t320 ++ ((rd_T36 l0 x6_1).f1)) (wrap64 (x6_1 + 1))) else (none))) = some (r1, r2) := by first | (rw [hy317]; with_reducible exact H) | (have H2_ := (Option.bind_some _ _).symm.trans H; rw [hy317]; with_reducible exact H2_) | (have H2_ := (Option.bind_some _ _).symm.trans H; with_reducible exact H2_) | with_reducible exact H | (rw [hy317]; exact H) | exact H
                        have Ny317 := Aside0.mk hy317
                        clear hy317
                        replace H := Option.bind_eq_some_iff.mp H
                        obtain ⟨t320, A270, H⟩ := H
                        replace H : (if t320.length + ((rd_T36 l0 x6_1).f1).length < 140737488355328 then (avocetref07_Join.l0 k1 l0 ji25 (t320 ++ ((rd_T36 l0 x6_1).f1)) (wrap64 (x6_1 + 1))) else (none)) = some (r1, r2) := H
                        have A27 := Aside0.mk A270
                        clear A270
                        by_cases c28 : t320.length + ((rd_T36 l0 x6_1).f1).length < 140737488355328
                        · rw [if_pos c28] at H
                          have LMc28 := Aside0.mk c28
                          clear c28
                          obtain ⟨y323, hy323⟩ : ∃ y_ : List Int, y_ = (t320 ++ ((rd_T36 l0 x6_1).f1)) := ⟨_, rfl⟩
                          replace H : (avocetref07_Join.l0 k1 l0 ji25 y323 (wrap64 (x6_1 + 1))) = some (r1, r2) := by first | (rw [hy323]; with_reducible exact H) | (have H2_ := (Option.bind_some _ _).symm.trans H; rw [hy323]; with_reducible exact H2_) | (have H2_ := (Option.bind_some _ _).symm.trans H; with_reducible exact H2_) | with_reducible exact H | (rw [hy323]; exact H) | exact H
                          have Ny323 := Aside0.mk hy323
                          clear hy323
                          have H' := Aside0.mk H
                          clear H
                          have p312 : 0 ≤ (x6_1 : Int) := of_decide_eq_true (by first | (with_reducible assumption) | assumption)
                          have q312 : x6_1 < (l0.length : Int) := of_decide_eq_true (by first | (with_reducible assumption) | assumption)
                          obtain ⟨ad312, A312_1, c312_1, e312, hx312_0, hx312_1, hl312_1, hi312_1⟩ := at_T36 HR0.out x6_1 p312 q312
                          cases e312
                          replace hx312_0 := (HB.out.cell (World.block_lt_of_cell? w _ hx312_0)).trans hx312_0
                          replace hx312_1 := (HB.out.cell (World.block_lt_of_cell? w _ hx312_1)).trans hx312_1
                          have HR312_1 := Aside0.mk hi312_1
                          have HC312_1 := Aside0.mk hl312_1
                          clear hi312_1 hl312_1
                          replace p312 := eq_true p312
                          replace q312 := eq_true q312
                          go_wp2_with (first | ((with_reducible refine gate_dst (N := 7) rfl ?_); refine box_event ?hg (N := 7) ?hd (cs := #[.int .i64 0, .slice none 0 0]) (t := 36) ?hr ?_; (case hd => rfl); (case hg => rfl); (case hr => first | (go_simp; done) | (go_simp; rfl)); intro gb313 hg w29 hbox hb; have n0_ := Aside0.mk (Kd.R_below (by (with_reducible repeat (first | apply Kd.R_alloc | apply Kd.R_drewN | apply Kd.R_drew)); exact HO_5.out) hb); have n1_ := Aside0.mk (below_step (by repeat (first | (with_reducible first | exact HB.out | apply below_alloc | apply pw_below_drewN | apply below_drew1) | exact HB.out)) hb); have n2_ := Aside0.mk (hbox); have n3_ := Aside0.mk ((by rw [hg]; exact (below_size (by repeat (first | (with_reducible first | exact HB.out | apply below_alloc | apply pw_below_drewN | apply below_drew1) | exact HB.out))) : w.heap.size ≤ gb313)); have n4_ := Aside0.mk ((by rw [hg]; exact (below_size (by repeat (first | (with_reducible first | exact HB.out | apply below_alloc | apply pw_below_drewN | apply below_drew1) | exact HB.out))) : w.heap.size ≤ gb313)); clear HO_5; clear HB; have HO_5 := n0_; have HB := n1_; have BK313 := n2_; have GW313 := n3_; have GE313 := n4_; clear n0_ n1_ n2_ n3_ n4_; clear hb hbox hg; have hcz30_0 : w29.cell? ⟨gb313, 0, none⟩ = some (.int .i64 0) := (blk_cell BK313.out 0).trans rfl; have hcz30_1 : w29.cell? ⟨gb313, 1, none⟩ = some (.slice none 0 0) := (blk_cell BK313.out 1).trans rfl; have hfz30_0 := blk_frozen BK313.out 0; have hfz30_1 := blk_frozen BK313.out 1) | ((with_reducible refine gate_callee (f := 32) rfl ?_); refine goesL_ (some 25) rfl rfl Tryd.func32 (by kernel_rfl) rfl #[.slice A312_1 ((rd_T36 l0 x6_1).f1).length c312_1, .int .i64 0] rfl (by (try simp only [List.map_toArray, List.map_cons, List.map_nil]); first | done | rfl | (simp only [List.length_drop, List.length_take]; rfl)) ?_; (with_reducible refine (avocetref03_Name.calls k1 _ _ ((rd_T36 l0 x6_1).f1) 0 t314 t315 t316 _ ?side1 ?side2 A6.out).mono ?_); (case side1 => exact Kd.C_below HR312_1.out (by repeat (first | (with_reducible first | exact HB.out | apply below_alloc | apply pw_below_drewN | apply below_drew1 | refine below_set ?_ GE313.out) | exact HB.out))); (case side2 => exact HC312_1.out); rintro e w31 ⟨rfl, hb⟩; refine ⟨_, rfl, ?_⟩; have n0_ := Aside0.mk (Kd.R_below (by (with_reducible repeat (first | apply Kd.R_alloc | apply Kd.R_drewN | apply Kd.R_drew)); exact (Kd.R_mono (Kd.R_far (p := ⟨gb313, 1, none⟩) (Kd.R_far (p := ⟨gb313, 0, none⟩) (Kd.R_types HO_5.out BK313.out (by decide)) (fun _ hk => hk.2) (.int .i64 ((rd_T36 l0 x6_1).f0))) (fun _ hk => hk.2) (.slice A312_1 ((rd_T36 l0 x6_1).f1).length c312_1)) (fun _ h_ => h_.1))) hb); have n1_ := Aside0.mk (blk_below (g := gb313) (o := .cells #[.int .i64 ((rd_T36 l0 x6_1).f0), .slice A312_1 ((rd_T36 l0 x6_1).f1).length c312_1] 36 (0, 0)) (by (with_reducible repeat (first | refine blk_drewN ?_ _ | refine blk_drew ?_ | refine blk_alloc ?_ _)); refine blk_put (cs := #[.int .i64 ((rd_T36 l0 x6_1).f0), .slice none 0 0]) ?_ 1 _ rfl; (with_reducible repeat (first | refine blk_drewN ?_ _ | refine blk_drew ?_ | refine blk_alloc ?_ _)); refine blk_put (cs := #[.int .i64 0, .slice none 0 0]) ?_ 0 _ rfl; (with_reducible repeat (first | refine blk_drewN ?_ _ | refine blk_drew ?_ | refine blk_alloc ?_ _)); exact BK313.out) hb); have n2_ := Aside0.mk (below_step (by repeat (first | (with_reducible first | exact HB.out | apply below_alloc | apply pw_below_drewN | apply below_drew1 | refine below_set ?_ GE313.out) | exact HB.out)) hb); clear HO_5; clear BK313; clear HB; have HO_5 := n0_; have BK313 := n1_; have HB := n2_; clear n0_ n1_ n2_; (try clear hb); (try clear hb2); (try clear hk); (try clear hi); have hcz32_0 : w31.cell? ⟨gb313, 0, none⟩ = some (.int .i64 ((rd_T36 l0 x6_1).f0)) := (blk_cell BK313.out 0).trans rfl; have hcz32_1 : w31.cell? ⟨gb313, 1, none⟩ = some (.slice A312_1 ((rd_T36 l0 x6_1).f1).length c312_1) := (blk_cell BK313.out 1).trans rfl; have hfz32_0 := blk_frozen BK313.out 0; have hfz32_1 := blk_frozen BK313.out 1) | ((with_reducible refine gate_builtin (b := .append) (xs := #[.tmp 61, .tmp 65]) rfl ?_); at_builtin; refine Kd.R_append (Kd.int .u8) (w0 := w) w.heap.size rfl (.tmp 61) (.tmp 65) 25 5 (.int .u8 0) 1 rfl Tryd.underlying25 info5 rfl (by decide) (by omega) u5 x5_1 (((rd_T36 l0 x6_1).f0) % 256) [.int .u8 (((rd_T36 l0 x6_1).f0) % 256)] (fun _ => True) (fun _ => False) rfl rfl ?aP (fun _ hk => hk.elim) ?aF ?aO ?aB ?aS ?aL ?_; (case aP => exact rfl); (case aB => exact (by repeat (first | (with_reducible first | exact HB.out | apply below_alloc | apply pw_below_drewN | apply below_drew1 | refine below_set ?_ GE313.out) | exact HB.out))); (case aF => exact (fun _ _ => trivial)); (case aO => exact (by (with_reducible repeat (first | apply Kd.R_alloc | apply Kd.R_drewN | apply Kd.R_drew)); exact HO_5.out)); (case aS => exact (below_size (by repeat (first | (with_reducible first | exact HB.out | apply below_alloc | apply pw_below_drewN | apply below_drew1 | refine below_set ?_ GE313.out) | exact HB.out)))); (case aL => have := LMc26.out; omega); intro v318 w33 ho hb hg hat; rw [← Ny317.out] at ho; have n0_ := Aside0.mk (blk_grown (g := gb313) (o := .cells #[.int .i64 ((rd_T36 l0 x6_1).f0), .slice A312_1 ((rd_T36 l0 x6_1).f1).length c312_1] 36 (0, 0)) (by (with_reducible repeat (first | refine blk_drewN ?_ _ | refine blk_drew ?_ | refine blk_alloc ?_ _)); exact BK313.out) hg (Kd.R_ne HO_5.out BK313.out (by decide))); have n1_ := Aside0.mk (hb); have n2_ := Aside0.mk (ho); clear BK313; clear HB; clear HO_5; have BK313 := n0_; have HB := n1_; have HO319 := n2_; clear n0_ n1_ n2_; clear ho hb hg hat; have hcz34_0 : w33.cell? ⟨gb313, 0, none⟩ = some (.int .i64 ((rd_T36 l0 x6_1).f0)) := (blk_cell BK313.out 0).trans rfl; have hcz34_1 : w33.cell? ⟨gb313, 1, none⟩ = some (.slice A312_1 ((rd_T36 l0 x6_1).f1).length c312_1) := (blk_cell BK313.out 1).trans rfl; have hfz34_0 := blk_frozen BK313.out 0; have hfz34_1 := blk_frozen BK313.out 1; obtain ⟨Ao35, co35, eo35⟩ := Kd.R_slice HO319.out; subst eo35) | ((with_reducible refine gate_callee (f := 33) rfl ?_); refine goesL_ (some 72) rfl rfl Tryd.func33 (by kernel_rfl) rfl #[.slice Ao35 y317.length co35, .int .u64 (IntKind.u64.wrap ((((rd_T36 l0 x6_1).f1).length : Int)))] rfl (by (try simp only [List.map_toArray, List.map_cons, List.map_nil]); first | done | rfl | (simp only [List.length_drop, List.length_take]; rfl)) ?_; (with_reducible refine (avocetref01_U.calls k1 _ _ y317 (IntKind.u64.wrap ((((rd_T36 l0 x6_1).f1).length : Int))) t320 _ ?side1 ?side2 A27.out).mono ?_); (case side1 => repeat (first | exact (Kd.R_reads' HO319.out).2.2 | (with_reducible refine Kd.C_alloc ?_ _) | (with_reducible refine Kd.C_drewN ?_ _) | (with_reducible refine Kd.C_drew ?_))); (case side2 => exact (Kd.R_reads' HO319.out).2.1); rintro e w36 ⟨v321, rfl, ho0, hb⟩; refine ⟨_, rfl, ?_⟩; have n0_ := Aside0.mk (Kd.R_elder' (by (with_reducible repeat (first | apply Kd.R_alloc | apply Kd.R_drewN | apply Kd.R_drew)); exact HO319.out) (Kd.R_base ho0) hb); have n1_ := Aside0.mk (Kd.R_lower (Kd.R_new' ho0 (Kd.R_lt (by (with_reducible repeat (first | apply Kd.R_alloc | apply Kd.R_drewN | apply Kd.R_drew)); exact HO319.out))) (below_size (by repeat (first | (with_reducible first | exact HB.out | apply below_alloc | apply pw_below_drewN | apply below_drew1 | refine below_set ?_ GE313.out) | exact HB.out)))); have n2_ := Aside0.mk (blk_below (g := gb313) (o := .cells #[.int .i64 ((rd_T36 l0 x6_1).f0), .slice A312_1 ((rd_T36 l0 x6_1).f1).length c312_1] 36 (0, 0)) (by (with_reducible repeat (first | refine blk_drewN ?_ _ | refine blk_drew ?_ | refine blk_alloc ?_ _)); exact BK313.out) hb); have n3_ := Aside0.mk (below_step (by repeat (first | (with_reducible first | exact HB.out | apply below_alloc | apply pw_below_drewN | apply below_drew1 | refine below_set ?_ GE313.out) | exact HB.out)) hb); clear HO319; clear BK313; clear HB; have HO319 := n0_; have HO322 := n1_; have BK313 := n2_; have HB := n3_; clear n0_ n1_ n2_ n3_; (try clear hb); (try clear hb2); (try clear hk); (try clear hi); (try clear ho0); have hcz37_0 : w36.cell? ⟨gb313, 0, none⟩ = some (.int .i64 ((rd_T36 l0 x6_1).f0)) := (blk_cell BK313.out 0).trans rfl; have hcz37_1 : w36.cell? ⟨gb313, 1, none⟩ = some (.slice A312_1 ((rd_T36 l0 x6_1).f1).length c312_1) := (blk_cell BK313.out 1).trans rfl; have hfz37_0 := blk_frozen BK313.out 0; have hfz37_1 := blk_frozen BK313.out 1) | ((with_reducible refine gate_builtin (b := .append) (xs := #[.tmp 73, .tmp 75]) rfl ?_); at_builtin; refine Kd.R_append_rows (Kd.int .u8) (w0 := w) w.heap.size rfl (.tmp 73) (.tmp 75) 25 5 (.int .u8 0) 1 rfl Tryd.underlying25 info5 rfl (by decide) (by omega) v321 t320 ((rd_T36 l0 x6_1).f1) _ _ _ (fun k_ => some k_ ≠ (.slice Ao35 y317.length co35 : Value).ownBlock) (fun _ => False) rfl rfl ?aO ?aR (fun _ _ h => h) (fun _ h => h.elim) ?aF ?aB ?aS ?aL ?_; (case aR => repeat (first | exact (Kd.C_below HR312_1.out HB.out) | (with_reducible refine Kd.C_alloc ?_ _) | (with_reducible refine Kd.C_drewN ?_ _) | (with_reducible refine Kd.C_drew ?_))); (case aB => exact (by repeat (first | (with_reducible first | exact HB.out | apply below_alloc | apply pw_below_drewN | apply below_drew1 | refine below_set ?_ GE313.out) | exact HB.out))); (case aF => exact (fun k_ hk => Kd.fresh' (Kd.R_lt (by (with_reducible repeat (first | apply Kd.R_alloc | apply Kd.R_drewN | apply Kd.R_drew)); exact HO319.out)) k_ hk)); (case aO => exact (by (with_reducible repeat (first | apply Kd.R_alloc | apply Kd.R_drewN | apply Kd.R_drew)); exact Kd.R_mono HO322.out (fun _ hk => hk.2))); (case aS => exact (below_size (by repeat (first | (with_reducible first | exact HB.out | apply below_alloc | apply pw_below_drewN | apply below_drew1 | refine below_set ?_ GE313.out) | exact HB.out)))); (case aL => have := LMc28.out; omega); intro v324 w38 ho hb hg hat; rw [← Ny323.out] at ho; have n0_ := Aside0.mk (blk_grown (g := gb313) (o := .cells #[.int .i64 ((rd_T36 l0 x6_1).f0), .slice A312_1 ((rd_T36 l0 x6_1).f1).length c312_1] 36 (0, 0)) (by (with_reducible repeat (first | refine blk_drewN ?_ _ | refine blk_drew ?_ | refine blk_alloc ?_ _)); exact BK313.out) hg (Kd.R_ne HO322.out BK313.out (by decide))); have n1_ := Aside0.mk (Kd.R_after (ok := (fun _ => True)) (by (with_reducible repeat (first | apply Kd.R_alloc | apply Kd.R_drewN | apply Kd.R_drew)); exact HO319.out) hg hat); have n2_ := Aside0.mk (hb); have n3_ := Aside0.mk (ho); clear BK313; clear HO319; clear HB; clear HO322; have BK313 := n0_; have HO319 := n1_; have HB := n2_; have HO325 := n3_; clear n0_ n1_ n2_ n3_; clear ho hb hg hat))
                          go_roundg k1
                          case measure => have := HK1.out; omega
                          case rel => exact ⟨(ji25), (y323), (wrap64 (x6_1 + 1)), (by first | rfl | (simp; done) | (simp only [← hji25] <;> (first | rfl | simp)) | (simp [*]; done)), (by first | rfl | (simp; done) | (simp [*]; done)), H', ⟨by have := HK1.out; omega⟩, ⟨by (with_reducible repeat (first | apply Kd.R_alloc | apply Kd.R_drewN | apply Kd.R_drew)); exact Kd.R_mono HO325.out (fun _ hk => trivial)⟩, ⟨by repeat (first | (with_reducible first | exact HB.out | apply below_alloc | apply pw_below_drewN | apply below_drew1 | refine below_set ?_ GE313.out) | exact HB.out)⟩⟩
                        · rw [if_neg c28] at H
                          exact absurd H (by simp)
                      · rw [if_neg c26] at H
                        exact absurd H (by simp)
                  · rw [if_neg c19] at H
                    have c19b0 : decide (0 < ((rd_T36 l0 x6_1).f0)) = false := decide_eq_false c19
                    clear c19
                    obtain ⟨ji39, hji39⟩ : ∃ j_ : Int, (mx x4_1 ((rd_T36 l0 x6_1).f0)) = j_ := ⟨_, rfl⟩
                    replace H : (if x5_1.length < 140737488355328 then ((avocetref01_U.f k1 (x5_1 ++ [((rd_T36 l0 x6_1).f0) % 256]) (IntKind.u64.wrap ((((rd_T36 l0 x6_1).f1).length : Int)))).bind fun t329 => (if t329.length + ((rd_T36 l0 x6_1).f1).length < 140737488355328 then (avocetref07_Join.l0 k1 l0 ji39 (t329 ++ ((rd_T36 l0 x6_1).f1)) (wrap64 (x6_1 + 1))) else (none))) else (none)) = some (r1, r2) := by first | (rw [hji39] at H; exact H) | (simp only [hji39] at H ⊢; exact H)
                    (try rw [hji39] at A6)
                    have hji39_ : (if x4_1 < ((rd_T36 l0 x6_1).f0) then ((rd_T36 l0 x6_1).f0) else x4_1) = ji39 := hji39
                    by_cases c40 : x5_1.length < 140737488355328
                    · rw [if_pos c40] at H
                      have LMc40 := Aside0.mk c40
                      clear c40
                      obtain ⟨y326, hy326⟩ : ∃ y_ : List Int, y_ = (x5_1 ++ [((rd_T36 l0 x6_1).f0) % 256]) := ⟨_, rfl⟩
                      replace H : ((avocetref01_U.f k1 y326 (IntKind.u64.wrap ((((rd_T36 l0 x6_1).f1).length : Int)))).bind fun t329 => (if t329.length + ((rd_T36 l0 x6_1).f1).length < 140737488355328 then (avocetref07_Join.l0 k1 l0 ji39 (t329 ++ ((rd_T36 l0 x6_1).f1)) (wrap64 (x6_1 + 1))) else (none))) = some (r1, r2) := by first | (rw [hy326]; with_reducible exact H) | (have H2_ := (Option.bind_some _ _).symm.trans H; rw [hy326]; with_reducible exact H2_) | (have H2_ := (Option.bind_some _ _).symm.trans H; with_reducible exact H2_) | with_reducible exact H | (rw [hy326]; exact H) | exact H
                      have Ny326 := Aside0.mk hy326
                      clear hy326
                      replace H := Option.bind_eq_some_iff.mp H
                      obtain ⟨t329, A410, H⟩ := H
                      replace H : (if t329.length + ((rd_T36 l0 x6_1).f1).length < 140737488355328 then (avocetref07_Join.l0 k1 l0 ji39 (t329 ++ ((rd_T36 l0 x6_1).f1)) (wrap64 (x6_1 + 1))) else (none)) = some (r1, r2) := H
                      have A41 := Aside0.mk A410
                      clear A410
                      by_cases c42 : t329.length + ((rd_T36 l0 x6_1).f1).length < 140737488355328
                      · rw [if_pos c42] at H
                        have LMc42 := Aside0.mk c42
                        clear c42
                        obtain ⟨y332, hy332⟩ : ∃ y_ : List Int, y_ = (t329 ++ ((rd_T36 l0 x6_1).f1)) := ⟨_, rfl⟩
                        replace H : (avocetref07_Join.l0 k1 l0 ji39 y332 (wrap64 (x6_1 + 1))) = some (r1, r2) := by first | (rw [hy332]; with_reducible exact H) | (have H2_ := (Option.bind_some _ _).symm.trans H; rw [hy332]; with_reducible exact H2_) | (have H2_ := (Option.bind_some _ _).symm.trans H; with_reducible exact H2_) | with_reducible exact H | (rw [hy332]; exact H) | exact H
                        have Ny332 := Aside0.mk hy332
                        clear hy332
                        have H' := Aside0.mk H
                        clear H
                        have p312 : 0 ≤ (x6_1 : Int) := of_decide_eq_true (by first | (with_reducible assumption) | assumption)
                        have q312 : x6_1 < (l0.length : Int) := of_decide_eq_true (by first | (with_reducible assumption) | assumption)
                        obtain ⟨ad312, A312_1, c312_1, e312, hx312_0, hx312_1, hl312_1, hi312_1⟩ := at_T36 HR0.out x6_1 p312 q312
                        cases e312
                        replace hx312_0 := (HB.out.cell (World.block_lt_of_cell? w _ hx312_0)).trans hx312_0
                        replace hx312_1 := (HB.out.cell (World.block_lt_of_cell? w _ hx312_1)).trans hx312_1
                        have HR312_1 := Aside0.mk hi312_1
                        have HC312_1 := Aside0.mk hl312_1
                        clear hi312_1 hl312_1
                        replace p312 := eq_true p312
                        replace q312 := eq_true q312
                        go_wp2_with (first | ((with_reducible refine gate_dst (N := 7) rfl ?_); refine box_event ?hg (N := 7) ?hd (cs := #[.int .i64 0, .slice none 0 0]) (t := 36) ?hr ?_; (case hd => rfl); (case hg => rfl); (case hr => first | (go_simp; done) | (go_simp; rfl)); intro gb313 hg w43 hbox hb; have n0_ := Aside0.mk (Kd.R_below (by (with_reducible repeat (first | apply Kd.R_alloc | apply Kd.R_drewN | apply Kd.R_drew)); exact HO_5.out) hb); have n1_ := Aside0.mk (below_step (by repeat (first | (with_reducible first | exact HB.out | apply below_alloc | apply pw_below_drewN | apply below_drew1) | exact HB.out)) hb); have n2_ := Aside0.mk (hbox); have n3_ := Aside0.mk ((by rw [hg]; exact (below_size (by repeat (first | (with_reducible first | exact HB.out | apply below_alloc | apply pw_below_drewN | apply below_drew1) | exact HB.out))) : w.heap.size ≤ gb313)); have n4_ := Aside0.mk ((by rw [hg]; exact (below_size (by repeat (first | (with_reducible first | exact HB.out | apply below_alloc | apply pw_below_drewN | apply below_drew1) | exact HB.out))) : w.heap.size ≤ gb313)); clear HO_5; clear HB; have HO_5 := n0_; have HB := n1_; have BK313 := n2_; have GW313 := n3_; have GE313 := n4_; clear n0_ n1_ n2_ n3_ n4_; clear hb hbox hg; have hcz44_0 : w43.cell? ⟨gb313, 0, none⟩ = some (.int .i64 0) := (blk_cell BK313.out 0).trans rfl; have hcz44_1 : w43.cell? ⟨gb313, 1, none⟩ = some (.slice none 0 0) := (blk_cell BK313.out 1).trans rfl; have hfz44_0 := blk_frozen BK313.out 0; have hfz44_1 := blk_frozen BK313.out 1) | ((with_reducible refine gate_callee (f := 32) rfl ?_); refine goesL_ (some 25) rfl rfl Tryd.func32 (by kernel_rfl) rfl #[.slice A312_1 ((rd_T36 l0 x6_1).f1).length c312_1, .int .i64 0] rfl (by (try simp only [List.map_toArray, List.map_cons, List.map_nil]); first | done | rfl | (simp only [List.length_drop, List.length_take]; rfl)) ?_; (with_reducible refine (avocetref03_Name.calls k1 _ _ ((rd_T36 l0 x6_1).f1) 0 t314 t315 t316 _ ?side1 ?side2 A6.out).mono ?_); (case side1 => exact Kd.C_below HR312_1.out (by repeat (first | (with_reducible first | exact HB.out | apply below_alloc | apply pw_below_drewN | apply below_drew1 | refine below_set ?_ GE313.out) | exact HB.out))); (case side2 => exact HC312_1.out); rintro e w45 ⟨rfl, hb⟩; refine ⟨_, rfl, ?_⟩; have n0_ := Aside0.mk (Kd.R_below (by (with_reducible repeat (first | apply Kd.R_alloc | apply Kd.R_drewN | apply Kd.R_drew)); exact (Kd.R_mono (Kd.R_far (p := ⟨gb313, 1, none⟩) (Kd.R_far (p := ⟨gb313, 0, none⟩) (Kd.R_types HO_5.out BK313.out (by decide)) (fun _ hk => hk.2) (.int .i64 ((rd_T36 l0 x6_1).f0))) (fun _ hk => hk.2) (.slice A312_1 ((rd_T36 l0 x6_1).f1).length c312_1)) (fun _ h_ => h_.1))) hb); have n1_ := Aside0.mk (blk_below (g := gb313) (o := .cells #[.int .i64 ((rd_T36 l0 x6_1).f0), .slice A312_1 ((rd_T36 l0 x6_1).f1).length c312_1] 36 (0, 0)) (by (with_reducible repeat (first | refine blk_drewN ?_ _ | refine blk_drew ?_ | refine blk_alloc ?_ _)); refine blk_put (cs := #[.int .i64 ((rd_T36 l0 x6_1).f0), .slice none 0 0]) ?_ 1 _ rfl; (with_reducible repeat (first | refine blk_drewN ?_ _ | refine blk_drew ?_ | refine blk_alloc ?_ _)); refine blk_put (cs := #[.int .i64 0, .slice none 0 0]) ?_ 0 _ rfl; (with_reducible repeat (first | refine blk_drewN ?_ _ | refine blk_drew ?_ | refine blk_alloc ?_ _)); exact BK313.out) hb); have n2_ := Aside0.mk (below_step (by repeat (first | (with_reducible first | exact HB.out | apply below_alloc | apply pw_below_drewN | apply below_drew1 | refine below_set ?_ GE313.out) | exact HB.out)) hb); clear HO_5; clear BK313; clear HB; have HO_5 := n0_; have BK313 := n1_; have HB := n2_; clear n0_ n1_ n2_; (try clear hb); (try clear hb2); (try clear hk); (try clear hi); have hcz46_0 : w45.cell? ⟨gb313, 0, none⟩ = some (.int .i64 ((rd_T36 l0 x6_1).f0)) := (blk_cell BK313.out 0).trans rfl; have hcz46_1 : w45.cell? ⟨gb313, 1, none⟩ = some (.slice A312_1 ((rd_T36 l0 x6_1).f1).length c312_1) := (blk_cell BK313.out 1).trans rfl; have hfz46_0 := blk_frozen BK313.out 0; have hfz46_1 := blk_frozen BK313.out 1) | ((with_reducible refine gate_builtin (b := .append) (xs := #[.tmp 61, .tmp 65]) rfl ?_); at_builtin; refine Kd.R_append (Kd.int .u8) (w0 := w) w.heap.size rfl (.tmp 61) (.tmp 65) 25 5 (.int .u8 0) 1 rfl Tryd.underlying25 info5 rfl (by decide) (by omega) u5 x5_1 (((rd_T36 l0 x6_1).f0) % 256) [.int .u8 (((rd_T36 l0 x6_1).f0) % 256)] (fun _ => True) (fun _ => False) rfl rfl ?aP (fun _ hk => hk.elim) ?aF ?aO ?aB ?aS ?aL ?_; (case aP => exact rfl); (case aB => exact (by repeat (first | (with_reducible first | exact HB.out | apply below_alloc | apply pw_below_drewN | apply below_drew1 | refine below_set ?_ GE313.out) | exact HB.out))); (case aF => exact (fun _ _ => trivial)); (case aO => exact (by (with_reducible repeat (first | apply Kd.R_alloc | apply Kd.R_drewN | apply Kd.R_drew)); exact HO_5.out)); (case aS => exact (below_size (by repeat (first | (with_reducible first | exact HB.out | apply below_alloc | apply pw_below_drewN | apply below_drew1 | refine below_set ?_ GE313.out) | exact HB.out)))); (case aL => have := LMc40.out; omega); intro v327 w47 ho hb hg hat; rw [← Ny326.out] at ho; have n0_ := Aside0.mk (blk_grown (g := gb313) (o := .cells #[.int .i64 ((rd_T36 l0 x6_1).f0), .slice A312_1 ((rd_T36 l0 x6_1).f1).length c312_1] 36 (0, 0)) (by (with_reducible repeat (first | refine blk_drewN ?_ _ | refine blk_drew ?_ | refine blk_alloc ?_ _)); exact BK313.out) hg (Kd.R_ne HO_5.out BK313.out (by decide))); have n1_ := Aside0.mk (hb); have n2_ := Aside0.mk (ho); clear BK313; clear HB; clear HO_5; have BK313 := n0_; have HB := n1_; have HO328 := n2_; clear n0_ n1_ n2_; clear ho hb hg hat; have hcz48_0 : w47.cell? ⟨gb313, 0, none⟩ = some (.int .i64 ((rd_T36 l0 x6_1).f0)) := (blk_cell BK313.out 0).trans rfl; have hcz48_1 : w47.cell? ⟨gb313, 1, none⟩ = some (.slice A312_1 ((rd_T36 l0 x6_1).f1).length c312_1) := (blk_cell BK313.out 1).trans rfl; have hfz48_0 := blk_frozen BK313.out 0; have hfz48_1 := blk_frozen BK313.out 1; obtain ⟨Ao49, co49, eo49⟩ := Kd.R_slice HO328.out; subst eo49) | ((with_reducible refine gate_callee (f := 33) rfl ?_); refine goesL_ (some 72) rfl rfl Tryd.func33 (by kernel_rfl) rfl #[.slice Ao49 y326.length co49, .int .u64 (IntKind.u64.wrap ((((rd_T36 l0 x6_1).f1).length : Int)))] rfl (by (try simp only [List.map_toArray, List.map_cons, List.map_nil]); first | done | rfl | (simp only [List.length_drop, List.length_take]; rfl)) ?_; (with_reducible refine (avocetref01_U.calls k1 _ _ y326 (IntKind.u64.wrap ((((rd_T36 l0 x6_1).f1).length : Int))) t329 _ ?side1 ?side2 A41.out).mono ?_); (case side1 => repeat (first | exact (Kd.R_reads' HO328.out).2.2 | (with_reducible refine Kd.C_alloc ?_ _) | (with_reducible refine Kd.C_drewN ?_ _) | (with_reducible refine Kd.C_drew ?_))); (case side2 => exact (Kd.R_reads' HO328.out).2.1); rintro e w50 ⟨v330, rfl, ho0, hb⟩; refine ⟨_, rfl, ?_⟩; have n0_ := Aside0.mk (Kd.R_elder' (by (with_reducible repeat (first | apply Kd.R_alloc | apply Kd.R_drewN | apply Kd.R_drew)); exact HO328.out) (Kd.R_base ho0) hb); have n1_ := Aside0.mk (Kd.R_lower (Kd.R_new' ho0 (Kd.R_lt (by (with_reducible repeat (first | apply Kd.R_alloc | apply Kd.R_drewN | apply Kd.R_drew)); exact HO328.out))) (below_size (by repeat (first | (with_reducible first | exact HB.out | apply below_alloc | apply pw_below_drewN | apply below_drew1 | refine below_set ?_ GE313.out) | exact HB.out)))); have n2_ := Aside0.mk (blk_below (g := gb313) (o := .cells #[.int .i64 ((rd_T36 l0 x6_1).f0), .slice A312_1 ((rd_T36 l0 x6_1).f1).length c312_1] 36 (0, 0)) (by (with_reducible repeat (first | refine blk_drewN ?_ _ | refine blk_drew ?_ | refine blk_alloc ?_ _)); exact BK313.out) hb); have n3_ := Aside0.mk (below_step (by repeat (first | (with_reducible first | exact HB.out | apply below_alloc | apply pw_below_drewN | apply below_drew1 | refine below_set ?_ GE313.out) | exact HB.out)) hb); clear HO328; clear BK313; clear HB; have HO328 := n0_; have HO331 := n1_; have BK313 := n2_; have HB := n3_; clear n0_ n1_ n2_ n3_; (try clear hb); (try clear hb2); (try clear hk); (try clear hi); (try clear ho0); have hcz51_0 : w50.cell? ⟨gb313, 0, none⟩ = some (.int .i64 ((rd_T36 l0 x6_1).f0)) := (blk_cell BK313.out 0).trans rfl; have hcz51_1 : w50.cell? ⟨gb313, 1, none⟩ = some (.slice A312_1 ((rd_T36 l0 x6_1).f1).length c312_1) := (blk_cell BK313.out 1).trans rfl; have hfz51_0 := blk_frozen BK313.out 0; have hfz51_1 := blk_frozen BK313.out 1) | ((with_reducible refine gate_builtin (b := .append) (xs := #[.tmp 73, .tmp 75]) rfl ?_); at_builtin; refine Kd.R_append_rows (Kd.int .u8) (w0 := w) w.heap.size rfl (.tmp 73) (.tmp 75) 25 5 (.int .u8 0) 1 rfl Tryd.underlying25 info5 rfl (by decide) (by omega) v330 t329 ((rd_T36 l0 x6_1).f1) _ _ _ (fun k_ => some k_ ≠ (.slice Ao49 y326.length co49 : Value).ownBlock) (fun _ => False) rfl rfl ?aO ?aR (fun _ _ h => h) (fun _ h => h.elim) ?aF ?aB ?aS ?aL ?_; (case aR => repeat (first | exact (Kd.C_below HR312_1.out HB.out) | (with_reducible refine Kd.C_alloc ?_ _) | (with_reducible refine Kd.C_drewN ?_ _) | (with_reducible refine Kd.C_drew ?_))); (case aB => exact (by repeat (first | (with_reducible first | exact HB.out | apply below_alloc | apply pw_below_drewN | apply below_drew1 | refine below_set ?_ GE313.out) | exact HB.out))); (case aF => exact (fun k_ hk => Kd.fresh' (Kd.R_lt (by (with_reducible repeat (first | apply Kd.R_alloc | apply Kd.R_drewN | apply Kd.R_drew)); exact HO328.out)) k_ hk)); (case aO => exact (by (with_reducible repeat (first | apply Kd.R_alloc | apply Kd.R_drewN | apply Kd.R_drew)); exact Kd.R_mono HO331.out (fun _ hk => hk.2))); (case aS => exact (below_size (by repeat (first | (with_reducible first | exact HB.out | apply below_alloc | apply pw_below_drewN | apply below_drew1 | refine below_set ?_ GE313.out) | exact HB.out)))); (case aL => have := LMc42.out; omega); intro v333 w52 ho hb hg hat; rw [← Ny332.out] at ho; have n0_ := Aside0.mk (blk_grown (g := gb313) (o := .cells #[.int .i64 ((rd_T36 l0 x6_1).f0), .slice A312_1 ((rd_T36 l0 x6_1).f1).length c312_1] 36 (0, 0)) (by (with_reducible repeat (first | refine blk_drewN ?_ _ | refine blk_drew ?_ | refine blk_alloc ?_ _)); exact BK313.out) hg (Kd.R_ne HO331.out BK313.out (by decide))); have n1_ := Aside0.mk (Kd.R_after (ok := (fun _ => True)) (by (with_reducible repeat (first | apply Kd.R_alloc | apply Kd.R_drewN | apply Kd.R_drew)); exact HO328.out) hg hat); have n2_ := Aside0.mk (hb); have n3_ := Aside0.mk (ho); clear BK313; clear HO328; clear HB; clear HO331; have BK313 := n0_; have HO328 := n1_; have HB := n2_; have HO334 := n3_; clear n0_ n1_ n2_ n3_; clear ho hb hg hat))
                        go_roundg k1
                        case measure => have := HK1.out; omega
                        case rel => exact ⟨(ji39), (y332), (wrap64 (x6_1 + 1)), (by first | rfl | (simp; done) | (simp only [← hji39] <;> (first | rfl | simp)) | (simp [*]; done)), (by first | rfl | (simp; done) | (simp [*]; done)), H', ⟨by have := HK1.out; omega⟩, ⟨by (with_reducible repeat (first | apply Kd.R_alloc | apply Kd.R_drewN | apply Kd.R_drew)); exact Kd.R_mono HO334.out (fun _ hk => trivial)⟩, ⟨by repeat (first | (with_reducible first | exact HB.out | apply below_alloc | apply pw_below_drewN | apply below_drew1 | refine below_set ?_ GE313.out) | exact HB.out)⟩⟩
                      · rw [if_neg c42] at H
                        exact absurd H (by simp)
                    · rw [if_neg c40] at H
                      exact absurd H (by simp)
                · rw [if_neg c18] at H
                  have c18b0 : (t316 == 0) = false := beq_eq_false_iff_ne.mpr c18
                  have c18b1 : (t316 != 0) = true := bne_iff_ne.mpr c18
                  simp only [Option.some.injEq, Prod.mk.injEq] at H
                  obtain ⟨rfl, rfl⟩ := H
                  have p312 : 0 ≤ (x6_1 : Int) := of_decide_eq_true (by first | (with_reducible assumption) | assumption)
                  have q312 : x6_1 < (l0.length : Int) := of_decide_eq_true (by first | (with_reducible assumption) | assumption)
                  obtain ⟨ad312, A312_1, c312_1, e312, hx312_0, hx312_1, hl312_1, hi312_1⟩ := at_T36 HR0.out x6_1 p312 q312
                  cases e312
                  replace hx312_0 := (HB.out.cell (World.block_lt_of_cell? w _ hx312_0)).trans hx312_0
                  replace hx312_1 := (HB.out.cell (World.block_lt_of_cell? w _ hx312_1)).trans hx312_1
                  have HR312_1 := Aside0.mk hi312_1
                  have HC312_1 := Aside0.mk hl312_1
                  clear hi312_1 hl312_1
                  replace p312 := eq_true p312
                  replace q312 := eq_true q312
                  go_wp2_with (first | ((with_reducible refine gate_dst (N := 7) rfl ?_); refine box_event ?hg (N := 7) ?hd (cs := #[.int .i64 0, .slice none 0 0]) (t := 36) ?hr ?_; (case hd => rfl); (case hg => rfl); (case hr => first | (go_simp; done) | (go_simp; rfl)); intro gb313 hg w53 hbox hb; have n0_ := Aside0.mk (Kd.R_below (by (with_reducible repeat (first | apply Kd.R_alloc | apply Kd.R_drewN | apply Kd.R_drew)); exact HO_5.out) hb); have n1_ := Aside0.mk (below_step (by repeat (first | (with_reducible first | exact HB.out | apply below_alloc | apply pw_below_drewN | apply below_drew1) | exact HB.out)) hb); have n2_ := Aside0.mk (hbox); have n3_ := Aside0.mk ((by rw [hg]; exact (below_size (by repeat (first | (with_reducible first | exact HB.out | apply below_alloc | apply pw_below_drewN | apply below_drew1) | exact HB.out))) : w.heap.size ≤ gb313)); have n4_ := Aside0.mk ((by rw [hg]; exact (below_size (by repeat (first | (with_reducible first | exact HB.out | apply below_alloc | apply pw_below_drewN | apply below_drew1) | exact HB.out))) : w.heap.size ≤ gb313)); clear HO_5; clear HB; have HO_5 := n0_; have HB := n1_; have BK313 := n2_; have GW313 := n3_; have GE313 := n4_; clear n0_ n1_ n2_ n3_ n4_; clear hb hbox hg; have hcz54_0 : w53.cell? ⟨gb313, 0, none⟩ = some (.int .i64 0) := (blk_cell BK313.out 0).trans rfl; have hcz54_1 : w53.cell? ⟨gb313, 1, none⟩ = some (.slice none 0 0) := (blk_cell BK313.out 1).trans rfl; have hfz54_0 := blk_frozen BK313.out 0; have hfz54_1 := blk_frozen BK313.out 1) | ((with_reducible refine gate_callee (f := 32) rfl ?_); refine goesL_ (some 25) rfl rfl Tryd.func32 (by kernel_rfl) rfl #[.slice A312_1 ((rd_T36 l0 x6_1).f1).length c312_1, .int .i64 0] rfl (by (try simp only [List.map_toArray, List.map_cons, List.map_nil]); first | done | rfl | (simp only [List.length_drop, List.length_take]; rfl)) ?_; (with_reducible refine (avocetref03_Name.calls k1 _ _ ((rd_T36 l0 x6_1).f1) 0 t314 t315 t316 _ ?side1 ?side2 A6.out).mono ?_); (case side1 => exact Kd.C_below HR312_1.out (by repeat (first | (with_reducible first | exact HB.out | apply below_alloc | apply pw_below_drewN | apply below_drew1 | refine below_set ?_ GE313.out) | exact HB.out))); (case side2 => exact HC312_1.out); rintro e w55 ⟨rfl, hb⟩; refine ⟨_, rfl, ?_⟩; have n0_ := Aside0.mk (Kd.R_below (by (with_reducible repeat (first | apply Kd.R_alloc | apply Kd.R_drewN | apply Kd.R_drew)); exact (Kd.R_mono (Kd.R_far (p := ⟨gb313, 1, none⟩) (Kd.R_far (p := ⟨gb313, 0, none⟩) (Kd.R_types HO_5.out BK313.out (by decide)) (fun _ hk => hk.2) (.int .i64 ((rd_T36 l0 x6_1).f0))) (fun _ hk => hk.2) (.slice A312_1 ((rd_T36 l0 x6_1).f1).length c312_1)) (fun _ h_ => h_.1))) hb); have n1_ := Aside0.mk (blk_below (g := gb313) (o := .cells #[.int .i64 ((rd_T36 l0 x6_1).f0), .slice A312_1 ((rd_T36 l0 x6_1).f1).length c312_1] 36 (0, 0)) (by (with_reducible repeat (first | refine blk_drewN ?_ _ | refine blk_drew ?_ | refine blk_alloc ?_ _)); refine blk_put (cs := #[.int .i64 ((rd_T36 l0 x6_1).f0), .slice none 0 0]) ?_ 1 _ rfl; (with_reducible repeat (first | refine blk_drewN ?_ _ | refine blk_drew ?_ | refine blk_alloc ?_ _)); refine blk_put (cs := #[.int .i64 0, .slice none 0 0]) ?_ 0 _ rfl; (with_reducible repeat (first | refine blk_drewN ?_ _ | refine blk_drew ?_ | refine blk_alloc ?_ _)); exact BK313.out) hb); have n2_ := Aside0.mk (below_step (by repeat (first | (with_reducible first | exact HB.out | apply below_alloc | apply pw_below_drewN | apply below_drew1 | refine below_set ?_ GE313.out) | exact HB.out)) hb); clear HO_5; clear BK313; clear HB; have HO_5 := n0_; have BK313 := n1_; have HB := n2_; clear n0_ n1_ n2_; (try clear hb); (try clear hb2); (try clear hk); (try clear hi); have hcz56_0 : w55.cell? ⟨gb313, 0, none⟩ = some (.int .i64 ((rd_T36 l0 x6_1).f0)) := (blk_cell BK313.out 0).trans rfl; have hcz56_1 : w55.cell? ⟨gb313, 1, none⟩ = some (.slice A312_1 ((rd_T36 l0 x6_1).f1).length c312_1) := (blk_cell BK313.out 1).trans rfl; have hfz56_0 := blk_frozen BK313.out 0; have hfz56_1 := blk_frozen BK313.out 1))
                  go_ret2
                  exact ⟨_, by first | rfl | (simp [errW_none, errW_some] <;> rfl) | (simp [*, errW_none, errW_some] <;> rfl), by first | exact Kd.R_nil _ _ _ _ _ | exact Kd.N_nil _ _ _ _ _ | exact Kd.V_nil _ _ _ _ _ | exact Kd.Q_nil _ _ _ _ _ | exact Kd.S_nil _ _ _ _ _, by repeat (first | (with_reducible first | exact HB.out | apply below_alloc | apply pw_below_drewN | apply below_drew1 | refine below_set ?_ GE313.out) | exact HB.out)⟩
              · rw [if_neg c17] at H
                have c17b0 : (((rd_T36 l0 x6_1).f0) == 0) = false := beq_eq_false_iff_ne.mpr c17
                have c17b1 : (((rd_T36 l0 x6_1).f0) != 0) = true := bne_iff_ne.mpr c17
                by_cases c57 : ((rd_T36 l0 x6_1).f0) > 0
                · rw [if_pos c57] at H
                  have c57b0 : decide (0 < ((rd_T36 l0 x6_1).f0)) = true := decide_eq_true c57
                  clear c57
                  by_cases c58 : ((rd_T36 l0 x6_1).f0) ≤ x4_1
                  · rw [if_pos c58] at H
                    have c58b0 : decide (((rd_T36 l0 x6_1).f0) ≤ x4_1) = true := decide_eq_true c58
                    clear c58
                    simp only [Option.some.injEq, Prod.mk.injEq] at H
                    obtain ⟨rfl, rfl⟩ := H
                    have p312 : 0 ≤ (x6_1 : Int) := of_decide_eq_true (by first | (with_reducible assumption) | assumption)
                    have q312 : x6_1 < (l0.length : Int) := of_decide_eq_true (by first | (with_reducible assumption) | assumption)
                    obtain ⟨ad312, A312_1, c312_1, e312, hx312_0, hx312_1, hl312_1, hi312_1⟩ := at_T36 HR0.out x6_1 p312 q312
                    cases e312
                    replace hx312_0 := (HB.out.cell (World.block_lt_of_cell? w _ hx312_0)).trans hx312_0
                    replace hx312_1 := (HB.out.cell (World.block_lt_of_cell? w _ hx312_1)).trans hx312_1
                    have HR312_1 := Aside0.mk hi312_1
                    have HC312_1 := Aside0.mk hl312_1
                    clear hi312_1 hl312_1
                    replace p312 := eq_true p312
                    replace q312 := eq_true q312
                    go_wp2_with (first | ((with_reducible refine gate_dst (N := 7) rfl ?_); refine box_event ?hg (N := 7) ?hd (cs := #[.int .i64 0, .slice none 0 0]) (t := 36) ?hr ?_; (case hd => rfl); (case hg => rfl); (case hr => first | (go_simp; done) | (go_simp; rfl)); intro gb313 hg w59 hbox hb; have n0_ := Aside0.mk (Kd.R_below (by (with_reducible repeat (first | apply Kd.R_alloc | apply Kd.R_drewN | apply Kd.R_drew)); exact HO_5.out) hb); have n1_ := Aside0.mk (below_step (by repeat (first | (with_reducible first | exact HB.out | apply below_alloc | apply pw_below_drewN | apply below_drew1) | exact HB.out)) hb); have n2_ := Aside0.mk (hbox); have n3_ := Aside0.mk ((by rw [hg]; exact (below_size (by repeat (first | (with_reducible first | exact HB.out | apply below_alloc | apply pw_below_drewN | apply below_drew1) | exact HB.out))) : w.heap.size ≤ gb313)); have n4_ := Aside0.mk ((by rw [hg]; exact (below_size (by repeat (first | (with_reducible first | exact HB.out | apply below_alloc | apply pw_below_drewN | apply below_drew1) | exact HB.out))) : w.heap.size ≤ gb313)); clear HO_5; clear HB; have HO_5 := n0_; have HB := n1_; have BK313 := n2_; have GW313 := n3_; have GE313 := n4_; clear n0_ n1_ n2_ n3_ n4_; clear hb hbox hg; have hcz60_0 : w59.cell? ⟨gb313, 0, none⟩ = some (.int .i64 0) := (blk_cell BK313.out 0).trans rfl; have hcz60_1 : w59.cell? ⟨gb313, 1, none⟩ = some (.slice none 0 0) := (blk_cell BK313.out 1).trans rfl; have hfz60_0 := blk_frozen BK313.out 0; have hfz60_1 := blk_frozen BK313.out 1) | ((with_reducible refine gate_callee (f := 32) rfl ?_); refine goesL_ (some 25) rfl rfl Tryd.func32 (by kernel_rfl) rfl #[.slice A312_1 ((rd_T36 l0 x6_1).f1).length c312_1, .int .i64 0] rfl (by (try simp only [List.map_toArray, List.map_cons, List.map_nil]); first | done | rfl | (simp only [List.length_drop, List.length_take]; rfl)) ?_; (with_reducible refine (avocetref03_Name.calls k1 _ _ ((rd_T36 l0 x6_1).f1) 0 t314 t315 t316 _ ?side1 ?side2 A6.out).mono ?_); (case side1 => exact Kd.C_below HR312_1.out (by repeat (first | (with_reducible first | exact HB.out | apply below_alloc | apply pw_below_drewN | apply below_drew1 | refine below_set ?_ GE313.out) | exact HB.out))); (case side2 => exact HC312_1.out); rintro e w61 ⟨rfl, hb⟩; refine ⟨_, rfl, ?_⟩; have n0_ := Aside0.mk (Kd.R_below (by (with_reducible repeat (first | apply Kd.R_alloc | apply Kd.R_drewN | apply Kd.R_drew)); exact (Kd.R_mono (Kd.R_far (p := ⟨gb313, 1, none⟩) (Kd.R_far (p := ⟨gb313, 0, none⟩) (Kd.R_types HO_5.out BK313.out (by decide)) (fun _ hk => hk.2) (.int .i64 ((rd_T36 l0 x6_1).f0))) (fun _ hk => hk.2) (.slice A312_1 ((rd_T36 l0 x6_1).f1).length c312_1)) (fun _ h_ => h_.1))) hb); have n1_ := Aside0.mk (blk_below (g := gb313) (o := .cells #[.int .i64 ((rd_T36 l0 x6_1).f0), .slice A312_1 ((rd_T36 l0 x6_1).f1).length c312_1] 36 (0, 0)) (by (with_reducible repeat (first | refine blk_drewN ?_ _ | refine blk_drew ?_ | refine blk_alloc ?_ _)); refine blk_put (cs := #[.int .i64 ((rd_T36 l0 x6_1).f0), .slice none 0 0]) ?_ 1 _ rfl; (with_reducible repeat (first | refine blk_drewN ?_ _ | refine blk_drew ?_ | refine blk_alloc ?_ _)); refine blk_put (cs := #[.int .i64 0, .slice none 0 0]) ?_ 0 _ rfl; (with_reducible repeat (first | refine blk_drewN ?_ _ | refine blk_drew ?_ | refine blk_alloc ?_ _)); exact BK313.out) hb); have n2_ := Aside0.mk (below_step (by repeat (first | (with_reducible first | exact HB.out | apply below_alloc | apply pw_below_drewN | apply below_drew1 | refine below_set ?_ GE313.out) | exact HB.out)) hb); clear HO_5; clear BK313; clear HB; have HO_5 := n0_; have BK313 := n1_; have HB := n2_; clear n0_ n1_ n2_; (try clear hb); (try clear hb2); (try clear hk); (try clear hi); have hcz62_0 : w61.cell? ⟨gb313, 0, none⟩ = some (.int .i64 ((rd_T36 l0 x6_1).f0)) := (blk_cell BK313.out 0).trans rfl; have hcz62_1 : w61.cell? ⟨gb313, 1, none⟩ = some (.slice A312_1 ((rd_T36 l0 x6_1).f1).length c312_1) := (blk_cell BK313.out 1).trans rfl; have hfz62_0 := blk_frozen BK313.out 0; have hfz62_1 := blk_frozen BK313.out 1))
                    go_ret2
                    exact ⟨_, by first | rfl | (simp [errW_none, errW_some] <;> rfl) | (simp [*, errW_none, errW_some] <;> rfl), by first | exact Kd.R_nil _ _ _ _ _ | exact Kd.N_nil _ _ _ _ _ | exact Kd.V_nil _ _ _ _ _ | exact Kd.Q_nil _ _ _ _ _ | exact Kd.S_nil _ _ _ _ _, by repeat (first | (with_reducible first | exact HB.out | apply below_alloc | apply pw_below_drewN | apply below_drew1 | refine below_set ?_ GE313.out) | exact HB.out)⟩
                  · rw [if_neg c58] at H
                    have c58b0 : decide (((rd_T36 l0 x6_1).f0) ≤ x4_1) = false := decide_eq_false c58
                    clear c58
                    obtain ⟨ji63, hji63⟩ : ∃ j_ : Int, (mx x4_1 ((rd_T36 l0 x6_1).f0)) = j_ := ⟨_, rfl⟩
                    replace H : (if x5_1.length < 140737488355328 then ((avocetref01_U.f k1 (x5_1 ++ [((rd_T36 l0 x6_1).f0) % 256]) (IntKind.u64.wrap ((((rd_T36 l0 x6_1).f1).length : Int)))).bind fun t338 => (if t338.length + ((rd_T36 l0 x6_1).f1).length < 140737488355328 then (avocetref07_Join.l0 k1 l0 ji63 (t338 ++ ((rd_T36 l0 x6_1).f1)) (wrap64 (x6_1 + 1))) else (none))) else (none)) = some (r1, r2) := by first | (rw [hji63] at H; exact H) | (simp only [hji63] at H ⊢; exact H)
                    (try rw [hji63] at A6)
                    have hji63_ : (if x4_1 < ((rd_T36 l0 x6_1).f0) then ((rd_T36 l0 x6_1).f0) else x4_1) = ji63 := hji63
                    by_cases c64 : x5_1.length < 140737488355328
                    · rw [if_pos c64] at H
                      have LMc64 := Aside0.mk c64
                      clear c64
                      obtain ⟨y335, hy335⟩ : ∃ y_ : List Int, y_ = (x5_1 ++ [((rd_T36 l0 x6_1).f0) % 256]) := ⟨_, rfl⟩
                      replace H : ((avocetref01_U.f k1 y335 (IntKind.u64.wrap ((((rd_T36 l0 x6_1).f1).length : Int)))).bind fun t338 => (if t338.length + ((rd_T36 l0 x6_1).f1).length < 140737488355328 then (avocetref07_Join.l0 k1 l0 ji63 (t338 ++ ((rd_T36 l0 x6_1).f1)) (wrap64 (x6_1 + 1))) else (none))) = some (r1, r2) := by first | (rw [hy335]; with_reducible exact H) | (have H2_ := (Option.bind_some _ _).symm.trans H; rw [hy335]; with_reducible exact H2_) | (have H2_ := (Option.bind_some _ _).symm.trans H; with_reducible exact H2_) | with_reducible exact H | (rw [hy335]; exact H) | exact H
                      have Ny335 := Aside0.mk hy335
                      clear hy335
                      replace H := Option.bind_eq_some_iff.mp H
                      obtain ⟨t338, A650, H⟩ := H
                      replace H : (if t338.length + ((rd_T36 l0 x6_1).f1).length < 140737488355328 then (avocetref07_Join.l0 k1 l0 ji63 (t338 ++ ((rd_T36 l0 x6_1).f1)) (wrap64 (x6_1 + 1))) else (none)) = some (r1, r2) := H
                      have A65 := Aside0.mk A650
                      clear A650
                      by_cases c66 : t338.length + ((rd_T36 l0 x6_1).f1).length < 140737488355328
                      · rw [if_pos c66] at H
                        have LMc66 := Aside0.mk c66
                        clear c66
                        obtain ⟨y341, hy341⟩ : ∃ y_ : List Int, y_ = (t338 ++ ((rd_T36 l0 x6_1).f1)) := ⟨_, rfl⟩
                        replace H : (avocetref07_Join.l0 k1 l0 ji63 y341 (wrap64 (x6_1 + 1))) = some (r1, r2) := by first | (rw [hy341]; with_reducible exact H) | (have H2_ := (Option.bind_some _ _).symm.trans H; rw [hy341]; with_reducible exact H2_) | (have H2_ := (Option.bind_some _ _).symm.trans H; with_reducible exact H2_) | with_reducible exact H | (rw [hy341]; exact H) | exact H
                        have Ny341 := Aside0.mk hy341
                        clear hy341
                        have H' := Aside0.mk H
                        clear H
                        have p312 : 0 ≤ (x6_1 : Int) := of_decide_eq_true (by first | (with_reducible assumption) | assumption)
                        have q312 : x6_1 < (l0.length : Int) := of_decide_eq_true (by first | (with_reducible assumption) | assumption)
                        obtain ⟨ad312, A312_1, c312_1, e312, hx312_0, hx312_1, hl312_1, hi312_1⟩ := at_T36 HR0.out x6_1 p312 q312
                        cases e312
                        replace hx312_0 := (HB.out.cell (World.block_lt_of_cell? w _ hx312_0)).trans hx312_0
                        replace hx312_1 := (HB.out.cell (World.block_lt_of_cell? w _ hx312_1)).trans hx312_1
                        have HR312_1 := Aside0.mk hi312_1
                        have HC312_1 := Aside0.mk hl312_1
                        clear hi312_1 hl312_1
                        replace p312 := eq_true p312
                        replace q312 := eq_true q312
                        go_wp2_with (first | ((with_reducible refine gate_dst (N := 7) rfl ?_); refine box_event ?hg (N := 7) ?hd (cs := #[.int .i64 0, .slice none 0 0]) (t := 36) ?hr ?_; (case hd => rfl); (case hg => rfl); (case hr => first | (go_simp; done) | (go_simp; rfl)); intro gb313 hg w67 hbox hb; have n0_ := Aside0.mk (Kd.R_below (by (with_reducible repeat (first | apply Kd.R_alloc | apply Kd.R_drewN | apply Kd.R_drew)); exact HO_5.out) hb); have n1_ := Aside0.mk (below_step (by repeat (first | (with_reducible first | exact HB.out | apply below_alloc | apply pw_below_drewN | apply below_drew1) | exact HB.out)) hb); have n2_ := Aside0.mk (hbox); have n3_ := Aside0.mk ((by rw [hg]; exact (below_size (by repeat (first | (with_reducible first | exact HB.out | apply below_alloc | apply pw_below_drewN | apply below_drew1) | exact HB.out))) : w.heap.size ≤ gb313)); have n4_ := Aside0.mk ((by rw [hg]; exact (below_size (by repeat (first | (with_reducible first | exact HB.out | apply below_alloc | apply pw_below_drewN | apply below_drew1) | exact HB.out))) : w.heap.size ≤ gb313)); clear HO_5; clear HB; have HO_5 := n0_; have HB := n1_; have BK313 := n2_; have GW313 := n3_; have GE313 := n4_; clear n0_ n1_ n2_ n3_ n4_; clear hb hbox hg; have hcz68_0 : w67.cell? ⟨gb313, 0, none⟩ = some (.int .i64 0) := (blk_cell BK313.out 0).trans rfl; have hcz68_1 : w67.cell? ⟨gb313, 1, none⟩ = some (.slice none 0 0) := (blk_cell BK313.out 1).trans rfl; have hfz68_0 := blk_frozen BK313.out 0; have hfz68_1 := blk_frozen BK313.out 1) | ((with_reducible refine gate_callee (f := 32) rfl ?_); refine goesL_ (some 25) rfl rfl Tryd.func32 (by kernel_rfl) rfl #[.slice A312_1 ((rd_T36 l0 x6_1).f1).length c312_1, .int .i64 0] rfl (by (try simp only [List.map_toArray, List.map_cons, List.map_nil]); first | done | rfl | (simp only [List.length_drop, List.length_take]; rfl)) ?_; (with_reducible refine (avocetref03_Name.calls k1 _ _ ((rd_T36 l0 x6_1).f1) 0 t314 t315 t316 _ ?side1 ?side2 A6.out).mono ?_); (case side1 => exact Kd.C_below HR312_1.out (by repeat (first | (with_reducible first | exact HB.out | apply below_alloc | apply pw_below_drewN | apply below_drew1 | refine below_set ?_ GE313.out) | exact HB.out))); (case side2 => exact HC312_1.out); rintro e w69 ⟨rfl, hb⟩; refine ⟨_, rfl, ?_⟩; have n0_ := Aside0.mk (Kd.R_below (by (with_reducible repeat (first | apply Kd.R_alloc | apply Kd.R_drewN | apply Kd.R_drew)); exact (Kd.R_mono (Kd.R_far (p := ⟨gb313, 1, none⟩) (Kd.R_far (p := ⟨gb313, 0, none⟩) (Kd.R_types HO_5.out BK313.out (by decide)) (fun _ hk => hk.2) (.int .i64 ((rd_T36 l0 x6_1).f0))) (fun _ hk => hk.2) (.slice A312_1 ((rd_T36 l0 x6_1).f1).length c312_1)) (fun _ h_ => h_.1))) hb); have n1_ := Aside0.mk (blk_below (g := gb313) (o := .cells #[.int .i64 ((rd_T36 l0 x6_1).f0), .slice A312_1 ((rd_T36 l0 x6_1).f1).length c312_1] 36 (0, 0)) (by (with_reducible repeat (first | refine blk_drewN ?_ _ | refine blk_drew ?_ | refine blk_alloc ?_ _)); refine blk_put (cs := #[.int .i64 ((rd_T36 l0 x6_1).f0), .slice none 0 0]) ?_ 1 _ rfl; (with_reducible repeat (first | refine blk_drewN ?_ _ | refine blk_drew ?_ | refine blk_alloc ?_ _)); refine blk_put (cs := #[.int .i64 0, .slice none 0 0]) ?_ 0 _ rfl; (with_reducible repeat (first | refine blk_drewN ?_ _ | refine blk_drew ?_ | refine blk_alloc ?_ _)); exact BK313.out) hb); have n2_ := Aside0.mk (below_step (by repeat (first | (with_reducible first | exact HB.out | apply below_alloc | apply pw_below_drewN | apply below_drew1 | refine below_set ?_ GE313.out) | exact HB.out)) hb); clear HO_5; clear BK313; clear HB; have HO_5 := n0_; have BK313 := n1_; have HB := n2_; clear n0_ n1_ n2_; (try clear hb); (try clear hb2); (try clear hk); (try clear hi); have hcz70_0 : w69.cell? ⟨gb313, 0, none⟩ = some (.int .i64 ((rd_T36 l0 x6_1).f0)) := (blk_cell BK313.out 0).trans rfl; have hcz70_1 : w69.cell? ⟨gb313, 1, none⟩ = some (.slice A312_1 ((rd_T36 l0 x6_1).f1).length c312_1) := (blk_cell BK313.out 1).trans rfl; have hfz70_0 := blk_frozen BK313.out 0; have hfz70_1 := blk_frozen BK313.out 1) | ((with_reducible refine gate_builtin (b := .append) (xs := #[.tmp 61, .tmp 65]) rfl ?_); at_builtin; refine Kd.R_append (Kd.int .u8) (w0 := w) w.heap.size rfl (.tmp 61) (.tmp 65) 25 5 (.int .u8 0) 1 rfl Tryd.underlying25 info5 rfl (by decide) (by omega) u5 x5_1 (((rd_T36 l0 x6_1).f0) % 256) [.int .u8 (((rd_T36 l0 x6_1).f0) % 256)] (fun _ => True) (fun _ => False) rfl rfl ?aP (fun _ hk => hk.elim) ?aF ?aO ?aB ?aS ?aL ?_; (case aP => exact rfl); (case aB => exact (by repeat (first | (with_reducible first | exact HB.out | apply below_alloc | apply pw_below_drewN | apply below_drew1 | refine below_set ?_ GE313.out) | exact HB.out))); (case aF => exact (fun _ _ => trivial)); (case aO => exact (by (with_reducible repeat (first | apply Kd.R_alloc | apply Kd.R_drewN | apply Kd.R_drew)); exact HO_5.out)); (case aS => exact (below_size (by repeat (first | (with_reducible first | exact HB.out | apply below_alloc | apply pw_below_drewN | apply below_drew1 | refine below_set ?_ GE313.out) | exact HB.out)))); (case aL => have := LMc64.out; omega); intro v336 w71 ho hb hg hat; rw [← Ny335.out] at ho; have n0_ := Aside0.mk (blk_grown (g := gb313) (o := .cells #[.int .i64 ((rd_T36 l0 x6_1).f0), .slice A312_1 ((rd_T36 l0 x6_1).f1).length c312_1] 36 (0, 0)) (by (with_reducible repeat (first | refine blk_drewN ?_ _ | refine blk_drew ?_ | refine blk_alloc ?_ _)); exact BK313.out) hg (Kd.R_ne HO_5.out BK313.out (by decide))); have n1_ := Aside0.mk (hb); have n2_ := Aside0.mk (ho); clear BK313; clear HB; clear HO_5; have BK313 := n0_; have HB := n1_; have HO337 := n2_; clear n0_ n1_ n2_; clear ho hb hg hat; have hcz72_0 : w71.cell? ⟨gb313, 0, none⟩ = some (.int .i64 ((rd_T36 l0 x6_1).f0)) := (blk_cell BK313.out 0).trans rfl; have hcz72_1 : w71.cell? ⟨gb313, 1, none⟩ = some (.slice A312_1 ((rd_T36 l0 x6_1).f1).length c312_1) := (blk_cell BK313.out 1).trans rfl; have hfz72_0 := blk_frozen BK313.out 0; have hfz72_1 := blk_frozen BK313.out 1; obtain ⟨Ao73, co73, eo73⟩ := Kd.R_slice HO337.out; subst eo73) | ((with_reducible refine gate_callee (f := 33) rfl ?_); refine goesL_ (some 72) rfl rfl Tryd.func33 (by kernel_rfl) rfl #[.slice Ao73 y335.length co73, .int .u64 (IntKind.u64.wrap ((((rd_T36 l0 x6_1).f1).length : Int)))] rfl (by (try simp only [List.map_toArray, List.map_cons, List.map_nil]); first | done | rfl | (simp only [List.length_drop, List.length_take]; rfl)) ?_; (with_reducible refine (avocetref01_U.calls k1 _ _ y335 (IntKind.u64.wrap ((((rd_T36 l0 x6_1).f1).length : Int))) t338 _ ?side1 ?side2 A65.out).mono ?_); (case side1 => repeat (first | exact (Kd.R_reads' HO337.out).2.2 | (with_reducible refine Kd.C_alloc ?_ _) | (with_reducible refine Kd.C_drewN ?_ _) | (with_reducible refine Kd.C_drew ?_))); (case side2 => exact (Kd.R_reads' HO337.out).2.1); rintro e w74 ⟨v339, rfl, ho0, hb⟩; refine ⟨_, rfl, ?_⟩; have n0_ := Aside0.mk (Kd.R_elder' (by (with_reducible repeat (first | apply Kd.R_alloc | apply Kd.R_drewN | apply Kd.R_drew)); exact HO337.out) (Kd.R_base ho0) hb); have n1_ := Aside0.mk (Kd.R_lower (Kd.R_new' ho0 (Kd.R_lt (by (with_reducible repeat (first | apply Kd.R_alloc | apply Kd.R_drewN | apply Kd.R_drew)); exact HO337.out))) (below_size (by repeat (first | (with_reducible first | exact HB.out | apply below_alloc | apply pw_below_drewN | apply below_drew1 | refine below_set ?_ GE313.out) | exact HB.out)))); have n2_ := Aside0.mk (blk_below (g := gb313) (o := .cells #[.int .i64 ((rd_T36 l0 x6_1).f0), .slice A312_1 ((rd_T36 l0 x6_1).f1).length c312_1] 36 (0, 0)) (by (with_reducible repeat (first | refine blk_drewN ?_ _ | refine blk_drew ?_ | refine blk_alloc ?_ _)); exact BK313.out) hb); have n3_ := Aside0.mk (below_step (by repeat (first | (with_reducible first | exact HB.out | apply below_alloc | apply pw_below_drewN | apply below_drew1 | refine below_set ?_ GE313.out) | exact HB.out)) hb); clear HO337; clear BK313; clear HB; have HO337 := n0_; have HO340 := n1_; have BK313 := n2_; have HB := n3_; clear n0_ n1_ n2_ n3_; (try clear hb); (try clear hb2); (try clear hk); (try clear hi); (try clear ho0); have hcz75_0 : w74.cell? ⟨gb313, 0, none⟩ = some (.int .i64 ((rd_T36 l0 x6_1).f0)) := (blk_cell BK313.out 0).trans rfl; have hcz75_1 : w74.cell? ⟨gb313, 1, none⟩ = some (.slice A312_1 ((rd_T36 l0 x6_1).f1).length c312_1) := (blk_cell BK313.out 1).trans rfl; have hfz75_0 := blk_frozen BK313.out 0; have hfz75_1 := blk_frozen BK313.out 1) | ((with_reducible refine gate_builtin (b := .append) (xs := #[.tmp 73, .tmp 75]) rfl ?_); at_builtin; refine Kd.R_append_rows (Kd.int .u8) (w0 := w) w.heap.size rfl (.tmp 73) (.tmp 75) 25 5 (.int .u8 0) 1 rfl Tryd.underlying25 info5 rfl (by decide) (by omega) v339 t338 ((rd_T36 l0 x6_1).f1) _ _ _ (fun k_ => some k_ ≠ (.slice Ao73 y335.length co73 : Value).ownBlock) (fun _ => False) rfl rfl ?aO ?aR (fun _ _ h => h) (fun _ h => h.elim) ?aF ?aB ?aS ?aL ?_; (case aR => repeat (first | exact (Kd.C_below HR312_1.out HB.out) | (with_reducible refine Kd.C_alloc ?_ _) | (with_reducible refine Kd.C_drewN ?_ _) | (with_reducible refine Kd.C_drew ?_))); (case aB => exact (by repeat (first | (with_reducible first | exact HB.out | apply below_alloc | apply pw_below_drewN | apply below_drew1 | refine below_set ?_ GE313.out) | exact HB.out))); (case aF => exact (fun k_ hk => Kd.fresh' (Kd.R_lt (by (with_reducible repeat (first | apply Kd.R_alloc | apply Kd.R_drewN | apply Kd.R_drew)); exact HO337.out)) k_ hk)); (case aO => exact (by (with_reducible repeat (first | apply Kd.R_alloc | apply Kd.R_drewN | apply Kd.R_drew)); exact Kd.R_mono HO340.out (fun _ hk => hk.2))); (case aS => exact (below_size (by repeat (first | (with_reducible first | exact HB.out | apply below_alloc | apply pw_below_drewN | apply below_drew1 | refine below_set ?_ GE313.out) | exact HB.out)))); (case aL => have := LMc66.out; omega); intro v342 w76 ho hb hg hat; rw [← Ny341.out] at ho; have n0_ := Aside0.mk (blk_grown (g := gb313) (o := .cells #[.int .i64 ((rd_T36 l0 x6_1).f0), .slice A312_1 ((rd_T36 l0 x6_1).f1).length c312_1] 36 (0, 0)) (by (with_reducible repeat (first | refine blk_drewN ?_ _ | refine blk_drew ?_ | refine blk_alloc ?_ _)); exact BK313.out) hg (Kd.R_ne HO340.out BK313.out (by decide))); have n1_ := Aside0.mk (Kd.R_after (ok := (fun _ => True)) (by (with_reducible repeat (first | apply Kd.R_alloc | apply Kd.R_drewN | apply Kd.R_drew)); exact HO337.out) hg hat); have n2_ := Aside0.mk (hb); have n3_ := Aside0.mk (ho); clear BK313; clear HO337; clear HB; clear HO340; have BK313 := n0_; have HO337 := n1_; have HB := n2_; have HO343 := n3_; clear n0_ n1_ n2_ n3_; clear ho hb hg hat))
                        go_roundg k1
                        case measure => have := HK1.out; omega
                        case rel => exact ⟨(ji63), (y341), (wrap64 (x6_1 + 1)), (by first | rfl | (simp; done) | (simp only [← hji63] <;> (first | rfl | simp)) | (simp [*]; done)), (by first | rfl | (simp; done) | (simp [*]; done)), H', ⟨by have := HK1.out; omega⟩, ⟨by (with_reducible repeat (first | apply Kd.R_alloc | apply Kd.R_drewN | apply Kd.R_drew)); exact Kd.R_mono HO343.out (fun _ hk => trivial)⟩, ⟨by repeat (first | (with_reducible first | exact HB.out | apply below_alloc | apply pw_below_drewN | apply below_drew1 | refine below_set ?_ GE313.out) | exact HB.out)⟩⟩
                      · rw [if_neg c66] at H
                        exact absurd H (by simp)
                    · rw [if_neg c64] at H
                      exact absurd H (by simp)
                · rw [if_neg c57] at H
                  have c57b0 : decide (0 < ((rd_T36 l0 x6_1).f0)) = false := decide_eq_false c57
                  clear c57
                  obtain ⟨ji77, hji77⟩ : ∃ j_ : Int, (mx x4_1 ((rd_T36 l0 x6_1).f0)) = j_ := ⟨_, rfl⟩
                  replace H : (if x5_1.length < 140737488355328 then ((avocetref01_U.f k1 (x5_1 ++ [((rd_T36 l0 x6_1).f0) % 256]) (IntKind.u64.wrap ((((rd_T36 l0 x6_1).f1).length : Int)))).bind fun t347 => (if t347.length + ((rd_T36 l0 x6_1).f1).length < 140737488355328 then (avocetref07_Join.l0 k1 l0 ji77 (t347 ++ ((rd_T36 l0 x6_1).f1)) (wrap64 (x6_1 + 1))) else (none))) else (none)) = some (r1, r2) := by first | (rw [hji77] at H; exact H) | (simp only [hji77] at H ⊢; exact H)
                  (try rw [hji77] at A6)
                  have hji77_ : (if x4_1 < ((rd_T36 l0 x6_1).f0) then ((rd_T36 l0 x6_1).f0) else x4_1) = ji77 := hji77
                  by_cases c78 : x5_1.length < 140737488355328
                  · rw [if_pos c78] at H
                    have LMc78 := Aside0.mk c78
                    clear c78
                    obtain ⟨y344, hy344⟩ : ∃ y_ : List Int, y_ = (x5_1 ++ [((rd_T36 l0 x6_1).f0) % 256]) := ⟨_, rfl⟩
                    replace H : ((avocetref01_U.f k1 y344 (IntKind.u64.wrap ((((rd_T36 l0 x6_1).f1).length : Int)))).bind fun t347 => (if t347.length + ((rd_T36 l0 x6_1).f1).length < 140737488355328 then (avocetref07_Join.l0 k1 l0 ji77 (t347 ++ ((rd_T36 l0 x6_1).f1)) (wrap64 (x6_1 + 1))) else (none))) = some (r1, r2) := by first | (rw [hy344]; with_reducible exact H) | (have H2_ := (Option.bind_some _ _).symm.trans H; rw [hy344]; with_reducible exact H2_) | (have H2_ := (Option.bind_some _ _).symm.trans H; with_reducible exact H2_) | with_reducible exact H | (rw [hy344]; exact H) | exact H
                    have Ny344 := Aside0.mk hy344
                    clear hy344
                    replace H := Option.bind_eq_some_iff.mp H
                    obtain ⟨t347, A790, H⟩ := H
                    replace H : (if t347.length + ((rd_T36 l0 x6_1).f1).length < 140737488355328 then (avocetref07_Join.l0 k1 l0 ji77 (t347 ++ ((rd_T36 l0 x6_1).f1)) (wrap64 (x6_1 + 1))) else (none)) = some (r1, r2) := H
                    have A79 := Aside0.mk A790
                    clear A790
                    by_cases c80 : t347.length + ((rd_T36 l0 x6_1).f1).length < 140737488355328
                    · rw [if_pos c80] at H
                      have LMc80 := Aside0.mk c80
                      clear c80
                      obtain ⟨y350, hy350⟩ : ∃ y_ : List Int, y_ = (t347 ++ ((rd_T36 l0 x6_1).f1)) := ⟨_, rfl⟩
                      replace H : (avocetref07_Join.l0 k1 l0 ji77 y350 (wrap64 (x6_1 + 1))) = some (r1, r2) := by first | (rw [hy350]; with_reducible exact H) | (have H2_ := (Option.bind_some _ _).symm.trans H; rw [hy350]; with_reducible exact H2_) | (have H2_ := (Option.bind_some _ _).symm.trans H; with_reducible exact H2_) | with_reducible exact H | (rw [hy350]; exact H) | exact H
                      have Ny350 := Aside0.mk hy350
                      clear hy350
                      have H' := Aside0.mk H
                      clear H
                      have p312 : 0 ≤ (x6_1 : Int) := of_decide_eq_true (by first | (with_reducible assumption) | assumption)
                      have q312 : x6_1 < (l0.length : Int) := of_decide_eq_true (by first | (with_reducible assumption) | assumption)
                      obtain ⟨ad312, A312_1, c312_1, e312, hx312_0, hx312_1, hl312_1, hi312_1⟩ := at_T36 HR0.out x6_1 p312 q312
                      cases e312
                      replace hx312_0 := (HB.out.cell (World.block_lt_of_cell? w _ hx312_0)).trans hx312_0
                      replace hx312_1 := (HB.out.cell (World.block_lt_of_cell? w _ hx312_1)).trans hx312_1
                      have HR312_1 := Aside0.mk hi312_1
                      have HC312_1 := Aside0.mk hl312_1
                      clear hi312_1 hl312_1
                      replace p312 := eq_true p312
                      replace q312 := eq_true q312
                      go_wp2_with (first | ((with_reducible refine gate_dst (N := 7) rfl ?_); refine box_event ?hg (N := 7) ?hd (cs := #[.int .i64 0, .slice none 0 0]) (t := 36) ?hr ?_; (case hd => rfl); (case hg => rfl); (case hr => first | (go_simp; done) | (go_simp; rfl)); intro gb313 hg w81 hbox hb; have n0_ := Aside0.mk (Kd.R_below (by (with_reducible repeat (first | apply Kd.R_alloc | apply Kd.R_drewN | apply Kd.R_drew)); exact HO_5.out) hb); have n1_ := Aside0.mk (below_step (by repeat (first | (with_reducible first | exact HB.out | apply below_alloc | apply pw_below_drewN | apply below_drew1) | exact HB.out)) hb); have n2_ := Aside0.mk (hbox); have n3_ := Aside0.mk ((by rw [hg]; exact (below_size (by repeat (first | (with_reducible first | exact HB.out | apply below_alloc | apply pw_below_drewN | apply below_drew1) | exact HB.out))) : w.heap.size ≤ gb313)); have n4_ := Aside0.mk ((by rw [hg]; exact (below_size (by repeat (first | (with_reducible first | exact HB.out | apply below_alloc | apply pw_below_drewN | apply below_drew1) | exact HB.out))) : w.heap.size ≤ gb313)); clear HO_5; clear HB; have HO_5 := n0_; have HB := n1_; have BK313 := n2_; have GW313 := n3_; have GE313 := n4_; clear n0_ n1_ n2_ n3_ n4_; clear hb hbox hg; have hcz82_0 : w81.cell? ⟨gb313, 0, none⟩ = some (.int .i64 0) := (blk_cell BK313.out 0).trans rfl; have hcz82_1 : w81.cell? ⟨gb313, 1, none⟩ = some (.slice none 0 0) := (blk_cell BK313.out 1).trans rfl; have hfz82_0 := blk_frozen BK313.out 0; have hfz82_1 := blk_frozen BK313.out 1) | ((with_reducible refine gate_callee (f := 32) rfl ?_); refine goesL_ (some 25) rfl rfl Tryd.func32 (by kernel_rfl) rfl #[.slice A312_1 ((rd_T36 l0 x6_1).f1).length c312_1, .int .i64 0] rfl (by (try simp only [List.map_toArray, List.map_cons, List.map_nil]); first | done | rfl | (simp only [List.length_drop, List.length_take]; rfl)) ?_; (with_reducible refine (avocetref03_Name.calls k1 _ _ ((rd_T36 l0 x6_1).f1) 0 t314 t315 t316 _ ?side1 ?side2 A6.out).mono ?_); (case side1 => exact Kd.C_below HR312_1.out (by repeat (first | (with_reducible first | exact HB.out | apply below_alloc | apply pw_below_drewN | apply below_drew1 | refine below_set ?_ GE313.out) | exact HB.out))); (case side2 => exact HC312_1.out); rintro e w83 ⟨rfl, hb⟩; refine ⟨_, rfl, ?_⟩; have n0_ := Aside0.mk (Kd.R_below (by (with_reducible repeat (first | apply Kd.R_alloc | apply Kd.R_drewN | apply Kd.R_drew)); exact (Kd.R_mono (Kd.R_far (p := ⟨gb313, 1, none⟩) (Kd.R_far (p := ⟨gb313, 0, none⟩) (Kd.R_types HO_5.out BK313.out (by decide)) (fun _ hk => hk.2) (.int .i64 ((rd_T36 l0 x6_1).f0))) (fun _ hk => hk.2) (.slice A312_1 ((rd_T36 l0 x6_1).f1).length c312_1)) (fun _ h_ => h_.1))) hb); have n1_ := Aside0.mk (blk_below (g := gb313) (o := .cells #[.int .i64 ((rd_T36 l0 x6_1).f0), .slice A312_1 ((rd_T36 l0 x6_1).f1).length c312_1] 36 (0, 0)) (by (with_reducible repeat (first | refine blk_drewN ?_ _ | refine blk_drew ?_ | refine blk_alloc ?_ _)); refine blk_put (cs := #[.int .i64 ((rd_T36 l0 x6_1).f0), .slice none 0 0]) ?_ 1 _ rfl; (with_reducible repeat (first | refine blk_drewN ?_ _ | refine blk_drew ?_ | refine blk_alloc ?_ _)); refine blk_put (cs := #[.int .i64 0, .slice none 0 0]) ?_ 0 _ rfl; (with_reducible repeat (first | refine blk_drewN ?_ _ | refine blk_drew ?_ | refine blk_alloc ?_ _)); exact BK313.out) hb); have n2_ := Aside0.mk (below_step (by repeat (first | (with_reducible first | exact HB.out | apply below_alloc | apply pw_below_drewN | apply below_drew1 | refine below_set ?_ GE313.out) | exact HB.out)) hb); clear HO_5; clear BK313; clear HB; have HO_5 := n0_; have BK313 := n1_; have HB := n2_; clear n0_ n1_ n2_; (try clear hb); (try clear hb2); (try clear hk); (try clear hi); have hcz84_0 : w83.cell? ⟨gb313, 0, none⟩ = some (.int .i64 ((rd_T36 l0 x6_1).f0)) := (blk_cell BK313.out 0).trans rfl; have hcz84_1 : w83.cell? ⟨gb313, 1, none⟩ = some (.slice A312_1 ((rd_T36 l0 x6_1).f1).length c312_1) := (blk_cell BK313.out 1).trans rfl; have hfz84_0 := blk_frozen BK313.out 0; have hfz84_1 := blk_frozen BK313.out 1) | ((with_reducible refine gate_builtin (b := .append) (xs := #[.tmp 61, .tmp 65]) rfl ?_); at_builtin; refine Kd.R_append (Kd.int .u8) (w0 := w) w.heap.size rfl (.tmp 61) (.tmp 65) 25 5 (.int .u8 0) 1 rfl Tryd.underlying25 info5 rfl (by decide) (by omega) u5 x5_1 (((rd_T36 l0 x6_1).f0) % 256) [.int .u8 (((rd_T36 l0 x6_1).f0) % 256)] (fun _ => True) (fun _ => False) rfl rfl ?aP (fun _ hk => hk.elim) ?aF ?aO ?aB ?aS ?aL ?_; (case aP => exact rfl); (case aB => exact (by repeat (first | (with_reducible first | exact HB.out | apply below_alloc | apply pw_below_drewN | apply below_drew1 | refine below_set ?_ GE313.out) | exact HB.out))); (case aF => exact (fun _ _ => trivial)); (case aO => exact (by (with_reducible repeat (first | apply Kd.R_alloc | apply Kd.R_drewN | apply Kd.R_drew)); exact HO_5.out)); (case aS => exact (below_size (by repeat (first | (with_reducible first | exact HB.out | apply below_alloc | apply pw_below_drewN | apply below_drew1 | refine below_set ?_ GE313.out) | exact HB.out)))); (case aL => have := LMc78.out; omega); intro v345 w85 ho hb hg hat; rw [← Ny344.out] at ho; have n0_ := Aside0.mk (blk_grown (g := gb313) (o := .cells #[.int .i64 ((rd_T36 l0 x6_1).f0), .slice A312_1 ((rd_T36 l0 x6_1).f1).length c312_1] 36 (0, 0)) (by (with_reducible repeat (first | refine blk_drewN ?_ _ | refine blk_drew ?_ | refine blk_alloc ?_ _)); exact BK313.out) hg (Kd.R_ne HO_5.out BK313.out (by decide))); have n1_ := Aside0.mk (hb); have n2_ := Aside0.mk (ho); clear BK313; clear HB; clear HO_5; have BK313 := n0_; have HB := n1_; have HO346 := n2_; clear n0_ n1_ n2_; clear ho hb hg hat; have hcz86_0 : w85.cell? ⟨gb313, 0, none⟩ = some (.int .i64 ((rd_T36 l0 x6_1).f0)) := (blk_cell BK313.out 0).trans rfl; have hcz86_1 : w85.cell? ⟨gb313, 1, none⟩ = some (.slice A312_1 ((rd_T36 l0 x6_1).f1).length c312_1) := (blk_cell BK313.out 1).trans rfl; have hfz86_0 := blk_frozen BK313.out 0; have hfz86_1 := blk_frozen BK313.out 1; obtain ⟨Ao87, co87, eo87⟩ := Kd.R_slice HO346.out; subst eo87) | ((with_reducible refine gate_callee (f := 33) rfl ?_); refine goesL_ (some 72) rfl rfl Tryd.func33 (by kernel_rfl) rfl #[.slice Ao87 y344.length co87, .int .u64 (IntKind.u64.wrap ((((rd_T36 l0 x6_1).f1).length : Int)))] rfl (by (try simp only [List.map_toArray, List.map_cons, List.map_nil]); first | done | rfl | (simp only [List.length_drop, List.length_take]; rfl)) ?_; (with_reducible refine (avocetref01_U.calls k1 _ _ y344 (IntKind.u64.wrap ((((rd_T36 l0 x6_1).f1).length : Int))) t347 _ ?side1 ?side2 A79.out).mono ?_); (case side1 => repeat (first | exact (Kd.R_reads' HO346.out).2.2 | (with_reducible refine Kd.C_alloc ?_ _) | (with_reducible refine Kd.C_drewN ?_ _) | (with_reducible refine Kd.C_drew ?_))); (case side2 => exact (Kd.R_reads' HO346.out).2.1); rintro e w88 ⟨v348, rfl, ho0, hb⟩; refine ⟨_, rfl, ?_⟩; have n0_ := Aside0.mk (Kd.R_elder' (by (with_reducible repeat (first | apply Kd.R_alloc | apply Kd.R_drewN | apply Kd.R_drew)); exact HO346.out) (Kd.R_base ho0) hb); have n1_ := Aside0.mk (Kd.R_lower (Kd.R_new' ho0 (Kd.R_lt (by (with_reducible repeat (first | apply Kd.R_alloc | apply Kd.R_drewN | apply Kd.R_drew)); exact HO346.out))) (below_size (by repeat (first | (with_reducible first | exact HB.out | apply below_alloc | apply pw_below_drewN | apply below_drew1 | refine below_set ?_ GE313.out) | exact HB.out)))); have n2_ := Aside0.mk (blk_below (g := gb313) (o := .cells #[.int .i64 ((rd_T36 l0 x6_1).f0), .slice A312_1 ((rd_T36 l0 x6_1).f1).length c312_1] 36 (0, 0)) (by (with_reducible repeat (first | refine blk_drewN ?_ _ | refine blk_drew ?_ | refine blk_alloc ?_ _)); exact BK313.out) hb); have n3_ := Aside0.mk (below_step (by repeat (first | (with_reducible first | exact HB.out | apply below_alloc | apply pw_below_drewN | apply below_drew1 | refine below_set ?_ GE313.out) | exact HB.out)) hb); clear HO346; clear BK313; clear HB; have HO346 := n0_; have HO349 := n1_; have BK313 := n2_; have HB := n3_; clear n0_ n1_ n2_ n3_; (try clear hb); (try clear hb2); (try clear hk); (try clear hi); (try clear ho0); have hcz89_0 : w88.cell? ⟨gb313, 0, none⟩ = some (.int .i64 ((rd_T36 l0 x6_1).f0)) := (blk_cell BK313.out 0).trans rfl; have hcz89_1 : w88.cell? ⟨gb313, 1, none⟩ = some (.slice A312_1 ((rd_T36 l0 x6_1).f1).length c312_1) := (blk_cell BK313.out 1).trans rfl; have hfz89_0 := blk_frozen BK313.out 0; have hfz89_1 := blk_frozen BK313.out 1) | ((with_reducible refine gate_builtin (b := .append) (xs := #[.tmp 73, .tmp 75]) rfl ?_); at_builtin; refine Kd.R_append_rows (Kd.int .u8) (w0 := w) w.heap.size rfl (.tmp 73) (.tmp 75) 25 5 (.int .u8 0) 1 rfl Tryd.underlying25 info5 rfl (by decide) (by omega) v348 t347 ((rd_T36 l0 x6_1).f1) _ _ _ (fun k_ => some k_ ≠ (.slice Ao87 y344.length co87 : Value).ownBlock) (fun _ => False) rfl rfl ?aO ?aR (fun _ _ h => h) (fun _ h => h.elim) ?aF ?aB ?aS ?aL ?_; (case aR => repeat (first | exact (Kd.C_below HR312_1.out HB.out) | (with_reducible refine Kd.C_alloc ?_ _) | (with_reducible refine Kd.C_drewN ?_ _) | (with_reducible refine Kd.C_drew ?_))); (case aB => exact (by repeat (first | (with_reducible first | exact HB.out | apply below_alloc | apply pw_below_drewN | apply below_drew1 | refine below_set ?_ GE313.out) | exact HB.out))); (case aF => exact (fun k_ hk => Kd.fresh' (Kd.R_lt (by (with_reducible repeat (first | apply Kd.R_alloc | apply Kd.R_drewN | apply Kd.R_drew)); exact HO346.out)) k_ hk)); (case aO => exact (by (with_reducible repeat (first | apply Kd.R_alloc | apply Kd.R_drewN | apply Kd.R_drew)); exact Kd.R_mono HO349.out (fun _ hk => hk.2))); (case aS => exact (below_size (by repeat (first | (with_reducible first | exact HB.out | apply below_alloc | apply pw_below_drewN | apply below_drew1 | refine below_set ?_ GE313.out) | exact HB.out)))); (case aL => have := LMc80.out; omega); intro v351 w90 ho hb hg hat; rw [← Ny350.out] at ho; have n0_ := Aside0.mk (blk_grown (g := gb313) (o := .cells #[.int .i64 ((rd_T36 l0 x6_1).f0), .slice A312_1 ((rd_T36 l0 x6_1).f1).length c312_1] 36 (0, 0)) (by (with_reducible repeat (first | refine blk_drewN ?_ _ | refine blk_drew ?_ | refine blk_alloc ?_ _)); exact BK313.out) hg (Kd.R_ne HO349.out BK313.out (by decide))); have n1_ := Aside0.mk (Kd.R_after (ok := (fun _ => True)) (by (with_reducible repeat (first | apply Kd.R_alloc | apply Kd.R_drewN | apply Kd.R_drew)); exact HO346.out) hg hat); have n2_ := Aside0.mk (hb); have n3_ := Aside0.mk (ho); clear BK313; clear HO346; clear HB; clear HO349; have BK313 := n0_; have HO346 := n1_; have HB := n2_; have HO352 := n3_; clear n0_ n1_ n2_ n3_; clear ho hb hg hat))
                      go_roundg k1
                      case measure => have := HK1.out; omega
                      case rel => exact ⟨(ji77), (y350), (wrap64 (x6_1 + 1)), (by first | rfl | (simp; done) | (simp only [← hji77] <;> (first | rfl | simp)) | (simp [*]; done)), (by first | rfl | (simp; done) | (simp [*]; done)), H', ⟨by have := HK1.out; omega⟩, ⟨by (with_reducible repeat (first | apply Kd.R_alloc | apply Kd.R_drewN | apply Kd.R_drew)); exact Kd.R_mono HO352.out (fun _ hk => trivial)⟩, ⟨by repeat (first | (with_reducible first | exact HB.out | apply below_alloc | apply pw_below_drewN | apply below_drew1 | refine below_set ?_ GE313.out) | exact HB.out)⟩⟩
                    · rw [if_neg c80] at H
                      exact absurd H (by simp)
                  · rw [if_neg c78] at H
                    exact absurd H (by simp)
        · rw [if_neg c5] at H
          exact absurd H (by simp)
      · rw [if_neg c4] at H
        have c4b0 : decide (x6_1 < (l0.length : Int)) = false := decide_eq_false c4
        clear c4
        by_cases c91 : (x5_1.length : Int) > 65536
        · rw [if_pos c91] at H
          have c91b0 : decide (65536 < (x5_1.length : Int)) = true := decide_eq_true c91
          have c91b1 : decide (65536 < x5_1.length) = true := decide_eq_true (by omega)
          clear c91
          simp only [Option.some.injEq, Prod.mk.injEq] at H
          obtain ⟨rfl, rfl⟩ := H
          obtain ⟨Ao92, co92, eo92⟩ := Kd.R_slice HO_5.out
          subst eo92
          go_wp2
          go_ret2
          exact ⟨_, by first | rfl | (simp [errW_none, errW_some] <;> rfl) | (simp [*, errW_none, errW_some] <;> rfl), by first | exact Kd.R_nil _ _ _ _ _ | exact Kd.N_nil _ _ _ _ _ | exact Kd.V_nil _ _ _ _ _ | exact Kd.Q_nil _ _ _ _ _ | exact Kd.S_nil _ _ _ _ _, by repeat (first | (with_reducible first | exact HB.out | apply below_alloc | apply pw_below_drewN | apply below_drew1) | exact HB.out)⟩
        · rw [if_neg c91] at H
          have c91b0 : decide (65536 < (x5_1.length : Int)) = false := decide_eq_false c91
          have c91b1 : decide (65536 < x5_1.length) = false := decide_eq_false (by omega)
          clear c91
          simp only [Option.some.injEq, Prod.mk.injEq] at H
          obtain ⟨rfl, rfl⟩ := H
          obtain ⟨Ao93, co93, eo93⟩ := Kd.R_slice HO_5.out
          subst eo93
          go_wp2
          go_ret2
          exact ⟨_, by first | rfl | (simp [errW_none, errW_some] <;> rfl) | (simp [*, errW_none, errW_some] <;> rfl), by (with_reducible repeat (first | apply Kd.R_alloc | apply Kd.R_drewN | apply Kd.R_drew)); exact HO_5.out, by repeat (first | (with_reducible first | exact HB.out | apply below_alloc | apply pw_below_drewN | apply below_drew1) | exact HB.out)⟩

/-! ### avocetref07_Find: function 20 -/
def avocetref07_Find.l0 : Nat → List (S36) → Int → Int → Option (List Int × Bool)
  | 0, _, _, _ => none
  | k + 1, x0, x1, x6 => if x6 < (x0.length : Int) then (if 0 ≤ x6 then (if ((rd_T36 x0 x6).f0) = x1 then (some ((rd_T36 x0 x6).f1, true)) else (avocetref07_Find.l0 k x0 x1 (wrap64 (x6 + 1)))) else (none)) else (some (([] : List Int), false))
def avocetref07_Find.f (k : Nat) (l0 : List (S36)) (a1 : Int) : Option (List Int × Bool) := avocetref07_Find.l0 k l0 a1 0
theorem avocetref07_Find.mono_l : ∀ k, (∀ y0 y1 y2, LeO (avocetref07_Find.l0 k y0 y1 y2) (avocetref07_Find.l0 (k + 1) y0 y1 y2))
  | 0 => fun _ _ _ r h => by simp [avocetref07_Find.l0] at h
  | k + 1 => by
    have ih0 := avocetref07_Find.mono_l k
    · intro y0 y1 y2
      unfold avocetref07_Find.l0
      repeat' first
      | (with_reducible exact ih0 _ _ _)
      | (with_reducible exact LeO.refl _)
      | (with_reducible exact LeO.none _)
      | (with_reducible refine LeO.ite ?_ ?_)
      | (with_reducible refine LeO.bind ?_ (fun _ => ?_))
      | exact ih0 _ _ _
      | exact LeO.none _
      | refine LeO.ite ?_ ?_
      | refine LeO.bind ?_ (fun _ => ?_)
theorem avocetref07_Find.mono : ∀ a0 a1 k, LeO (avocetref07_Find.f k a0 a1) (avocetref07_Find.f (k + 1) a0 a1) := by
  intro a0 a1 k
  have ih0 := avocetref07_Find.mono_l k
  unfold avocetref07_Find.f
  repeat' first
      | (with_reducible exact ih0 _ _ _)
      | (with_reducible exact LeO.refl _)
      | (with_reducible exact LeO.none _)
      | (with_reducible refine LeO.ite ?_ ?_)
      | (with_reducible refine LeO.bind ?_ (fun _ => ?_))
      | exact ih0 _ _ _
      | exact LeO.none _
      | refine LeO.ite ?_ ?_
      | refine LeO.bind ?_ (fun _ => ?_)
set_option maxHeartbeats 8000000 in
set_option maxRecDepth 100000 in
theorem avocetref07_Find.calls (k : Nat) (P0_ : Nat → Prop) (A0 : Option Addr) (c0 : Nat) (l0 : List (S36)) (a1 : Int) (r1 : List Int) (r2 : Bool) (w : World) (hs0 : Kd.V k36 36 w w.heap.size (fun k_ => P0_ k_) (.slice A0 l0.length c0) l0) (h : avocetref07_Find.f k l0 a1 = some (r1, r2)) :
    Calls Tryd.prog 20 #[.slice A0 l0.length c0, .int .i64 a1] w fun e w' => ∃ v0_ : Value, e = .returned (.tuple #[v0_, .bool r2]) ∧ Kd.V (Kd.int .u8) 5 w' w.heap.size (fun k_ => (P0_ k_ ∨ w.heap.size ≤ k_)) v0_ r1 ∧ Below w.heap.size w w' := by
  have HO0 := Aside0.mk (show Kd.V k36 36 w w.heap.size (fun k_ => (P0_ k_ ∨ w.heap.size ≤ k_)) (.slice A0 l0.length c0) l0 from Kd.V_mono hs0 (fun k_ hk => .inl hk))
  have HB := Aside0.mk (Below.refl w.heap.size w)
  have H : (avocetref07_Find.l0 k l0 a1 0) = some (r1, r2) := h
  clear h
  have H' := Aside0.mk H
  clear H
  go_enter Tryd.func20, Tryd.ntmps20
  go_wp2
  go_loopg [6] k (fun kq v6 w' => ∃ (x6_1 : Int), v6 = .int .i64 x6_1 ∧ Aside0 (avocetref07_Find.l0 kq l0 a1 x6_1 = some (r1, r2)) ∧ Aside0 (kq ≤ k) ∧ Aside0 (Kd.V k36 36 w' w.heap.size (fun k_ => (P0_ k_ ∨ w.heap.size ≤ k_)) (.slice A0 l0.length c0) l0) ∧ Aside0 (Below w.heap.size w w'))
  case atStart => exact ⟨(0), (by first | rfl | (simp; done) | (simp [*]; done)), H', ⟨Nat.le_refl _⟩, ⟨by (with_reducible repeat (first | apply Kd.V_alloc | apply Kd.V_drewN | apply Kd.V_drew)); exact HO0.out⟩, ⟨by repeat (first | (with_reducible first | exact HB.out | apply below_alloc | apply pw_below_drewN | apply below_drew1) | exact HB.out)⟩⟩
  case round =>
    clear H'
    try clear c2
    try clear p2
    obtain ⟨x6_1, rfl, HA, HK1, HO_0, HB⟩ := hrel
    cases gk with
    | zero => exact absurd HA.out (by simp [avocetref07_Find.l0])
    | succ k1 =>
      have H := HA.out
      clear HA
      simp only [avocetref07_Find.l0] at H
      by_cases c3 : x6_1 < (l0.length : Int)
      · rw [if_pos c3] at H
        have c3b0 : decide (x6_1 < (l0.length : Int)) = true := decide_eq_true c3
        clear c3
        by_cases c4 : 0 ≤ x6_1
        · rw [if_pos c4] at H
          have c4b0 : decide (0 ≤ x6_1) = true := decide_eq_true c4
          clear c4
          by_cases c5 : ((rd_T36 l0 x6_1).f0) = a1
          · rw [if_pos c5] at H
            have c5b0 : (((rd_T36 l0 x6_1).f0) == a1) = true := beq_iff_eq.mpr c5
            have c5b1 : (((rd_T36 l0 x6_1).f0) != a1) = false := bne_eq_false_iff_eq.mpr c5
            clear c5
            simp only [Option.some.injEq, Prod.mk.injEq] at H
            obtain ⟨rfl, rfl⟩ := H
            have p353 : 0 ≤ (x6_1 : Int) := of_decide_eq_true (by first | (with_reducible assumption) | assumption)
            have q353 : x6_1 < (l0.length : Int) := of_decide_eq_true (by first | (with_reducible assumption) | assumption)
            obtain ⟨ad353, A353_1, c353_1, e353, hx353_0, hx353_1, hl353_1, hi353_1⟩ := at_T36 (Kd.V_reads' HO_0.out).2.2 x6_1 p353 q353
            cases e353
            obtain ⟨ce353, hce353, hMe353, hcc353⟩ := Kd.V_get HO_0.out z36 x6_1 p353 (by first | exact q353 | exact of_decide_eq_true (by first | (with_reducible assumption) | assumption) | (have e_ := (Kd.V_reads' HO_0.out).1; omega))
            obtain ⟨ua353_1, uc353_1, rfl, ul353_1, ge353_1⟩ := k36_openF hMe353
            have hv353_1 := hcc353 1 _ rfl
            rw [add_field _ _ 1 (by omega)] at hv353_1
            replace hv353_1 := Option.some.inj (hv353_1.symm.trans hx353_1)
            injection hv353_1 with hva_ hvn_ hvc_
            rw [hva_] at ge353_1
            rw [hvc_] at ul353_1
            have HL353_1 := Aside0.mk (show Kd.V (Kd.int .u8) 5 _ w.heap.size _ _ ((rd_T36 l0 x6_1).f1) from Kd.V_mk ul353_1 ge353_1)
            clear hva_ hvn_ hvc_ ge353_1 ul353_1
            clear hcc353 hce353
            have HR353_1 := Aside0.mk hi353_1
            have HC353_1 := Aside0.mk hl353_1
            clear hi353_1 hl353_1
            replace p353 := eq_true p353
            replace q353 := eq_true q353
            have p354 : 0 ≤ (x6_1 : Int) := of_decide_eq_true (by first | (with_reducible assumption) | assumption)
            have q354 : x6_1 < (l0.length : Int) := of_decide_eq_true (by first | (with_reducible assumption) | assumption)
            obtain ⟨ad354, A354_1, c354_1, e354, hx354_0, hx354_1, hl354_1, hi354_1⟩ := at_T36 (Kd.V_reads' HO_0.out).2.2 x6_1 p354 q354
            obtain rfl : ad353 = ad354 := (by injection e354)
            obtain ⟨ce354, hce354, hMe354, hcc354⟩ := Kd.V_get HO_0.out z36 x6_1 p354 (by first | exact q354 | exact of_decide_eq_true (by first | (with_reducible assumption) | assumption) | (have e_ := (Kd.V_reads' HO_0.out).1; omega))
            obtain ⟨ua354_1, uc354_1, rfl, ul354_1, ge354_1⟩ := k36_openF hMe354
            have hv354_1 := hcc354 1 _ rfl
            rw [add_field _ _ 1 (by omega)] at hv354_1
            replace hv354_1 := Option.some.inj (hv354_1.symm.trans hx354_1)
            injection hv354_1 with hva_ hvn_ hvc_
            rw [hva_] at ge354_1
            rw [hvc_] at ul354_1
            have HL354_1 := Aside0.mk (show Kd.V (Kd.int .u8) 5 _ w.heap.size _ _ ((rd_T36 l0 x6_1).f1) from Kd.V_mk ul354_1 ge354_1)
            clear hva_ hvn_ hvc_ ge354_1 ul354_1
            clear hcc354 hce354
            have HR354_1 := Aside0.mk hi354_1
            have HC354_1 := Aside0.mk hl354_1
            clear hi354_1 hl354_1
            replace p354 := eq_true p354
            replace q354 := eq_true q354
            have ea_ := Option.some.inj (hx353_1.symm.trans hx354_1)
            injection ea_ with ea_ en_ ec_
            subst ea_
            subst ec_
            clear en_
            go_wp2
            go_ret2
            exact ⟨_, by first | rfl | (simp [errW_none, errW_some] <;> rfl) | (simp [*, errW_none, errW_some] <;> rfl), by (with_reducible repeat (first | apply Kd.V_alloc | apply Kd.V_drewN | apply Kd.V_drew)); exact HL354_1.out, by repeat (first | (with_reducible first | exact HB.out | apply below_alloc | apply pw_below_drewN | apply below_drew1) | exact HB.out)⟩
          · rw [if_neg c5] at H
            have c5b0 : (((rd_T36 l0 x6_1).f0) == a1) = false := beq_eq_false_iff_ne.mpr c5
            have c5b1 : (((rd_T36 l0 x6_1).f0) != a1) = true := bne_iff_ne.mpr c5
            have H' := Aside0.mk H
            clear H
            have p353 : 0 ≤ (x6_1 : Int) := of_decide_eq_true (by first | (with_reducible assumption) | assumption)
            have q353 : x6_1 < (l0.length : Int) := of_decide_eq_true (by first | (with_reducible assumption) | assumption)
            obtain ⟨ad353, A353_1, c353_1, e353, hx353_0, hx353_1, hl353_1, hi353_1⟩ := at_T36 (Kd.V_reads' HO_0.out).2.2 x6_1 p353 q353
            cases e353
            obtain ⟨ce353, hce353, hMe353, hcc353⟩ := Kd.V_get HO_0.out z36 x6_1 p353 (by first | exact q353 | exact of_decide_eq_true (by first | (with_reducible assumption) | assumption) | (have e_ := (Kd.V_reads' HO_0.out).1; omega))
            obtain ⟨ua353_1, uc353_1, rfl, ul353_1, ge353_1⟩ := k36_openF hMe353
            have hv353_1 := hcc353 1 _ rfl
            rw [add_field _ _ 1 (by omega)] at hv353_1
            replace hv353_1 := Option.some.inj (hv353_1.symm.trans hx353_1)
            injection hv353_1 with hva_ hvn_ hvc_
            rw [hva_] at ge353_1
            rw [hvc_] at ul353_1
            have HL353_1 := Aside0.mk (show Kd.V (Kd.int .u8) 5 _ w.heap.size _ _ ((rd_T36 l0 x6_1).f1) from Kd.V_mk ul353_1 ge353_1)
            clear hva_ hvn_ hvc_ ge353_1 ul353_1
            clear hcc353 hce353
            have HR353_1 := Aside0.mk hi353_1
            have HC353_1 := Aside0.mk hl353_1
            clear hi353_1 hl353_1
            replace p353 := eq_true p353
            replace q353 := eq_true q353
            go_wp2
            go_roundg k1
            case measure => have := HK1.out; omega
            case rel => exact ⟨(wrap64 (x6_1 + 1)), (by first | rfl | (simp; done) | (simp [*]; done)), H', ⟨by have := HK1.out; omega⟩, ⟨by (with_reducible repeat (first | apply Kd.V_alloc | apply Kd.V_drewN | apply Kd.V_drew)); exact HO_0.out⟩, ⟨by repeat (first | (with_reducible first | exact HB.out | apply below_alloc | apply pw_below_drewN | apply below_drew1) | exact HB.out)⟩⟩
        · rw [if_neg c4] at H
          exact absurd H (by simp)
      · rw [if_neg c3] at H
        have c3b0 : decide (x6_1 < (l0.length : Int)) = false := decide_eq_false c3
        clear c3
        simp only [Option.some.injEq, Prod.mk.injEq] at H
        obtain ⟨rfl, rfl⟩ := H
        go_wp2
        go_ret2
        exact ⟨_, by first | rfl | (simp [errW_none, errW_some] <;> rfl) | (simp [*, errW_none, errW_some] <;> rfl), (by first | exact Kd.V_nil _ _ _ _ _ | exact Kd.V_mono (Kd.R_V (by first | exact Kd.R_nil _ _ _ _ _ | exact Kd.N_nil _ _ _ _ _ | exact Kd.V_nil _ _ _ _ _ | exact Kd.Q_nil _ _ _ _ _ | exact Kd.S_nil _ _ _ _ _)) (fun k_ hk => by first | exact ⟨(.inr (hk.1)), hk.2⟩ | exact (.inr (hk)))), by repeat (first | (with_reducible first | exact HB.out | apply below_alloc | apply pw_below_drewN | apply below_drew1) | exact HB.out)⟩

/-! ### avocetref03_Lay: function 34 -/
def avocetref03_Lay.f (k : Nat) (l0 : List Int) (a1 : ByteArray) : Option (List Int × Int) := if (a1.size : Int) > 64 then (some (([] : List Int), 4)) else (if a1.size < 140737488355328 then ((avocetref03_Valid.f k (bytesOf a1)).bind fun t359 => (if t359 = true then ((avocetref01_U.f k l0 (IntKind.u64.wrap ((a1.size : Int)))).bind fun t360 => (if t360.length + a1.size < 140737488355328 then (some ((t360 ++ bytesOf a1), 0)) else (none))) else (some (([] : List Int), 3)))) else (none))
theorem avocetref03_Lay.mono : ∀ a0 a1 k, LeO (avocetref03_Lay.f k a0 a1) (avocetref03_Lay.f (k + 1) a0 a1) := by
  intro a0 a1 k
  unfold avocetref03_Lay.f
  repeat' first
      | (with_reducible exact avocetref01_U.mono _ _ _)
      | (with_reducible exact avocetref03_Valid.mono _ _)
      | (with_reducible exact LeO.refl _)
      | (with_reducible exact LeO.none _)
      | (with_reducible refine LeO.ite ?_ ?_)
      | (with_reducible refine LeO.bind ?_ (fun _ => ?_))
      | exact avocetref01_U.mono _ _ _
      | exact avocetref03_Valid.mono _ _
      | exact LeO.none _
      | refine LeO.ite ?_ ?_
      | refine LeO.bind ?_ (fun _ => ?_)
set_option maxHeartbeats 8000000 in
set_option maxRecDepth 100000 in
theorem avocetref03_Lay.calls (k : Nat) (A0 : Option Addr) (c0 : Nat) (l0 : List Int) (a1 : ByteArray) (r1 : List Int) (r2 : Int) (w : World) (hr0 : Kd.C (Kd.int .u8) w A0 l0.length l0) (hc0 : l0.length ≤ c0) (h : avocetref03_Lay.f k l0 a1 = some (r1, r2)) :
    Calls Tryd.prog 34 #[.slice A0 l0.length c0, .string a1] w fun e w' => ∃ v0_ : Value, e = .returned (.tuple #[v0_, .int .i64 r2]) ∧ Kd.R (Kd.int .u8) 5 w' w.heap.size (fun _ => True) v0_ r1 ∧ Below w.heap.size w w' := by
  have HR0 := Aside0.mk hr0
  have HC0 := Aside0.mk hc0
  clear hr0 hc0
  have HB := Aside0.mk (Below.refl w.heap.size w)
  have H : (if (a1.size : Int) > 64 then (some (([] : List Int), 4)) else (if a1.size < 140737488355328 then ((avocetref03_Valid.f k (bytesOf a1)).bind fun t359 => (if t359 = true then ((avocetref01_U.f k l0 (IntKind.u64.wrap ((a1.size : Int)))).bind fun t360 => (if t360.length + a1.size < 140737488355328 then (some ((t360 ++ bytesOf a1), 0)) else (none))) else (some (([] : List Int), 3)))) else (none))) = some (r1, r2) := h
  clear h
  by_cases c3 : (a1.size : Int) > 64
  · rw [if_pos c3] at H
    have c3b0 : decide (64 < (a1.size : Int)) = true := decide_eq_true c3
    have c3b1 : decide (64 < a1.size) = true := decide_eq_true (by omega)
    clear c3
    simp only [Option.some.injEq, Prod.mk.injEq] at H
    obtain ⟨rfl, rfl⟩ := H
    go_enter Tryd.func34, Tryd.ntmps34
    go_wp2
    go_ret2
    exact ⟨_, by first | rfl | (simp [errW_none, errW_some] <;> rfl) | (simp [*, errW_none, errW_some] <;> rfl), by first | exact Kd.R_nil _ _ _ _ _ | exact Kd.N_nil _ _ _ _ _ | exact Kd.V_nil _ _ _ _ _ | exact Kd.Q_nil _ _ _ _ _ | exact Kd.S_nil _ _ _ _ _, by repeat (first | (with_reducible first | exact HB.out | apply below_alloc | apply pw_below_drewN | apply below_drew1) | exact HB.out)⟩
  · rw [if_neg c3] at H
    have c3b0 : decide (64 < (a1.size : Int)) = false := decide_eq_false c3
    have c3b1 : decide (64 < a1.size) = false := decide_eq_false (by omega)
    clear c3
    by_cases c4 : a1.size < 140737488355328
    · rw [if_pos c4] at H
      have c4b0 := eq_true c4
      have c4b1 : decide (a1.size < 140737488355328) = true := decide_eq_true c4
      clear c4
      obtain ⟨y355, hy355⟩ : ∃ y_ : List Int, y_ = (bytesOf a1) := ⟨_, rfl⟩
      replace H : ((avocetref03_Valid.f k y355).bind fun t359 => (if t359 = true then ((avocetref01_U.f k l0 (IntKind.u64.wrap ((a1.size : Int)))).bind fun t360 => (if t360.length + a1.size < 140737488355328 then (some ((t360 ++ bytesOf a1), 0)) else (none))) else (some (([] : List Int), 3)))) = some (r1, r2) := by first | (rw [hy355]; with_reducible exact H) | (have H2_ := (Option.bind_some _ _).symm.trans H; rw [hy355]; with_reducible exact H2_) | (have H2_ := (Option.bind_some _ _).symm.trans H; with_reducible exact H2_) | with_reducible exact H | (rw [hy355]; exact H) | exact H
      have Ny355 := Aside0.mk hy355
      clear hy355
      replace H := Option.bind_eq_some_iff.mp H
      obtain ⟨t359, A50, H⟩ := H
      replace H : (if t359 = true then ((avocetref01_U.f k l0 (IntKind.u64.wrap ((a1.size : Int)))).bind fun t360 => (if t360.length + a1.size < 140737488355328 then (some ((t360 ++ bytesOf a1), 0)) else (none))) else (some (([] : List Int), 3))) = some (r1, r2) := H
      have A5 := Aside0.mk A50
      clear A50
      by_cases c6 : t359 = true
      · subst c6
        have H1 : ((avocetref01_U.f k l0 (IntKind.u64.wrap ((a1.size : Int)))).bind fun t360 => (if t360.length + a1.size < 140737488355328 then (some ((t360 ++ bytesOf a1), 0)) else (none))) = some (r1, r2) := by rw [if_pos rfl] at H; exact H
        clear H
        have H := H1
        clear H1
        replace H := Option.bind_eq_some_iff.mp H
        obtain ⟨t360, A70, H⟩ := H
        replace H : (if t360.length + a1.size < 140737488355328 then (some ((t360 ++ bytesOf a1), 0)) else (none)) = some (r1, r2) := H
        have A7 := Aside0.mk A70
        clear A70
        by_cases c8 : t360.length + a1.size < 140737488355328
        · rw [if_pos c8] at H
          have LMc8 := Aside0.mk c8
          clear c8
          obtain ⟨y363, hy363⟩ : ∃ y_ : List Int, y_ = (t360 ++ bytesOf a1) := ⟨_, rfl⟩
          replace H : (some (y363, 0)) = some (r1, r2) := by first | (rw [hy363]; with_reducible exact H) | (have H2_ := (Option.bind_some _ _).symm.trans H; rw [hy363]; with_reducible exact H2_) | (have H2_ := (Option.bind_some _ _).symm.trans H; with_reducible exact H2_) | with_reducible exact H | (rw [hy363]; exact H) | exact H
          have Ny363 := Aside0.mk hy363
          clear hy363
          simp only [Option.some.injEq, Prod.mk.injEq] at H
          obtain ⟨rfl, rfl⟩ := H
          go_enter Tryd.func34, Tryd.ntmps34
          go_wp2_with (first | ((with_reducible refine gate_dst (N := 11) rfl ?_); refine conv_event ?hg (N := 11) ?hd (s := a1) (e := 5) Ny355.out ?hr ?hz ?_; (case hd => rfl); (case hg => rfl); (case hr => have kb_ := print_bytes (P := Tryd.prog) 9 25 5 Tryd.underlying9 Tryd.underlying25 Tryd.underlying5 a1; first | (go_simp; done) | (go_simp; rfl)); (case hz => have h_ : (a1.size < 140737488355328) := of_decide_eq_true (by first | (with_reducible assumption) | assumption); omega); intro A358 c358 w9 hr hc hb; have n0_ := Aside0.mk (below_step (by repeat (first | (with_reducible first | exact HB.out | apply below_alloc | apply pw_below_drewN | apply below_drew1) | exact HB.out)) hb); have n1_ := Aside0.mk (hr); have n2_ := Aside0.mk (hc); clear HB; have HB := n0_; have HR358 := n1_; have HC358 := n2_; clear n0_ n1_ n2_; clear hb hr hc) | ((with_reducible refine gate_callee (f := 41) rfl ?_); refine goesL_ (some 12) rfl rfl Tryd.func41 (by kernel_rfl) rfl #[.slice A358 y355.length c358] rfl (by (try simp only [List.map_toArray, List.map_cons, List.map_nil]); first | done | rfl | (simp only [List.length_drop, List.length_take]; rfl)) ?_; (with_reducible refine (avocetref03_Valid.calls k _ _ y355 true _ ?side1 ?side2 A5.out).mono ?_); (case side1 => repeat (first | exact HR358.out | (with_reducible refine Kd.C_drewN ?_ _) | (with_reducible refine Kd.C_drew ?_))); (case side2 => exact HC358.out); rintro e w10 ⟨rfl, hb⟩; refine ⟨_, rfl, ?_⟩; have n0_ := Aside0.mk (below_step (by repeat (first | (with_reducible first | exact HB.out | apply below_alloc | apply pw_below_drewN | apply below_drew1) | exact HB.out)) hb); clear HB; have HB := n0_; clear n0_; (try clear hb); (try clear hb2); (try clear hk); (try clear hi)) | ((with_reducible refine gate_callee (f := 33) rfl ?_); refine goesL_ (some 18) rfl rfl Tryd.func33 (by kernel_rfl) rfl #[.slice A0 l0.length c0, .int .u64 (IntKind.u64.wrap ((a1.size : Int)))] rfl (by (try simp only [List.map_toArray, List.map_cons, List.map_nil]); first | done | rfl | (simp only [List.length_drop, List.length_take]; rfl)) ?_; (with_reducible refine (avocetref01_U.calls k _ _ l0 (IntKind.u64.wrap ((a1.size : Int))) t360 _ ?side1 ?side2 A7.out).mono ?_); (case side1 => repeat (first | exact (Kd.C_below HR0.out HB.out) | (with_reducible refine Kd.C_alloc ?_ _) | (with_reducible refine Kd.C_drewN ?_ _) | (with_reducible refine Kd.C_drew ?_))); (case side2 => exact HC0.out); rintro e w11 ⟨v361, rfl, ho0, hb⟩; refine ⟨_, rfl, ?_⟩; have n0_ := Aside0.mk (Kd.R_lower ho0 (below_size (by repeat (first | (with_reducible first | exact HB.out | apply below_alloc | apply pw_below_drewN | apply below_drew1) | exact HB.out)))); have n1_ := Aside0.mk (below_step (by repeat (first | (with_reducible first | exact HB.out | apply below_alloc | apply pw_below_drewN | apply below_drew1) | exact HB.out)) hb); clear HB; have HO362 := n0_; have HB := n1_; clear n0_ n1_; (try clear hb); (try clear hb2); (try clear hk); (try clear hi); (try clear ho0)) | (at_builtin; refine print_append_str (w0 := w) w.heap.size rfl (.tmp 19) _ 25 9 5 rfl Tryd.underlying25 Tryd.underlying9 info5 v361 t360 a1 rfl rfl ?aO ?aB ?aS ?aL ?_; (case aB => exact (by repeat (first | (with_reducible first | exact HB.out | apply below_alloc | apply pw_below_drewN | apply below_drew1) | exact HB.out))); (case aO => exact (Kd.own_of_R (by (with_reducible repeat (first | apply Kd.R_alloc | apply Kd.R_drewN | apply Kd.R_drew)); exact HO362.out))); (case aS => exact (below_size (by repeat (first | (with_reducible first | exact HB.out | apply below_alloc | apply pw_below_drewN | apply below_drew1) | exact HB.out)))); (case aL => have := LMc8.out; omega); intro v364 w12 ho0 hb hg; have ho := Kd.R_of_own (h1 := fun _ => rfl) (ok := fun _ => True) ho0 (fun _ _ => trivial); clear ho0; have hat := True.intro; rw [← Ny363.out] at ho; change Kd.R (Kd.int .u8) 5 w12 w.heap.size (fun _ => True) v364 y363 at ho; have n0_ := Aside0.mk (hb); have n1_ := Aside0.mk (ho); clear HB; clear HO362; have HB := n0_; have HO365 := n1_; clear n0_ n1_; clear ho hb hg hat))
          go_ret2
          exact ⟨_, by first | rfl | (simp [errW_none, errW_some] <;> rfl) | (simp [*, errW_none, errW_some] <;> rfl), by (with_reducible repeat (first | apply Kd.R_alloc | apply Kd.R_drewN | apply Kd.R_drew)); exact HO365.out, by repeat (first | (with_reducible first | exact HB.out | apply below_alloc | apply pw_below_drewN | apply below_drew1) | exact HB.out)⟩
        · rw [if_neg c8] at H
          exact absurd H (by simp)
      · replace c6 := Bool.eq_false_iff.mpr c6
        subst c6
        have H1 : (some (([] : List Int), 3)) = some (r1, r2) := by rw [if_neg (show ¬ (false = true) by decide)] at H; exact H
        clear H
        have H := H1
        clear H1
        simp only [Option.some.injEq, Prod.mk.injEq] at H
        obtain ⟨rfl, rfl⟩ := H
        go_enter Tryd.func34, Tryd.ntmps34
        go_wp2_with (first | ((with_reducible refine gate_dst (N := 11) rfl ?_); refine conv_event ?hg (N := 11) ?hd (s := a1) (e := 5) Ny355.out ?hr ?hz ?_; (case hd => rfl); (case hg => rfl); (case hr => have kb_ := print_bytes (P := Tryd.prog) 9 25 5 Tryd.underlying9 Tryd.underlying25 Tryd.underlying5 a1; first | (go_simp; done) | (go_simp; rfl)); (case hz => have h_ : (a1.size < 140737488355328) := of_decide_eq_true (by first | (with_reducible assumption) | assumption); omega); intro A358 c358 w13 hr hc hb; have n0_ := Aside0.mk (below_step (by repeat (first | (with_reducible first | exact HB.out | apply below_alloc | apply pw_below_drewN | apply below_drew1) | exact HB.out)) hb); have n1_ := Aside0.mk (hr); have n2_ := Aside0.mk (hc); clear HB; have HB := n0_; have HR358 := n1_; have HC358 := n2_; clear n0_ n1_ n2_; clear hb hr hc) | ((with_reducible refine gate_callee (f := 41) rfl ?_); refine goesL_ (some 12) rfl rfl Tryd.func41 (by kernel_rfl) rfl #[.slice A358 y355.length c358] rfl (by (try simp only [List.map_toArray, List.map_cons, List.map_nil]); first | done | rfl | (simp only [List.length_drop, List.length_take]; rfl)) ?_; (with_reducible refine (avocetref03_Valid.calls k _ _ y355 false _ ?side1 ?side2 A5.out).mono ?_); (case side1 => repeat (first | exact HR358.out | (with_reducible refine Kd.C_drewN ?_ _) | (with_reducible refine Kd.C_drew ?_))); (case side2 => exact HC358.out); rintro e w14 ⟨rfl, hb⟩; refine ⟨_, rfl, ?_⟩; have n0_ := Aside0.mk (below_step (by repeat (first | (with_reducible first | exact HB.out | apply below_alloc | apply pw_below_drewN | apply below_drew1) | exact HB.out)) hb); clear HB; have HB := n0_; clear n0_; (try clear hb); (try clear hb2); (try clear hk); (try clear hi)))
        go_ret2
        exact ⟨_, by first | rfl | (simp [errW_none, errW_some] <;> rfl) | (simp [*, errW_none, errW_some] <;> rfl), by first | exact Kd.R_nil _ _ _ _ _ | exact Kd.N_nil _ _ _ _ _ | exact Kd.V_nil _ _ _ _ _ | exact Kd.Q_nil _ _ _ _ _ | exact Kd.S_nil _ _ _ _ _, by repeat (first | (with_reducible first | exact HB.out | apply below_alloc | apply pw_below_drewN | apply below_drew1) | exact HB.out)⟩
    · rw [if_neg c4] at H
      exact absurd H (by simp)

/-! ### avocetref07_Custom: function 21 -/
def avocetref07_Custom.f (k : Nat) (a0 : ByteArray) (l1 : List Int) : Option (Int × List Int × Int) := (avocetref03_Lay.f k ([] : List Int) a0).bind fun bt367 => (if bt367.2 = 0 then (if bt367.1.length + l1.length < 140737488355328 then (some (0, (bt367.1 ++ l1), 0)) else (none)) else (some (0, ([] : List Int), bt367.2)))
theorem avocetref07_Custom.mono : ∀ a0 a1 k, LeO (avocetref07_Custom.f k a0 a1) (avocetref07_Custom.f (k + 1) a0 a1) := by
  intro a0 a1 k
  unfold avocetref07_Custom.f
  repeat' first
      | (with_reducible exact avocetref03_Lay.mono _ _ _)
      | (with_reducible exact LeO.refl _)
      | (with_reducible exact LeO.none _)
      | (with_reducible refine LeO.ite ?_ ?_)
      | (with_reducible refine LeO.bind ?_ (fun _ => ?_))
      | exact avocetref03_Lay.mono _ _ _
      | exact LeO.none _
      | refine LeO.ite ?_ ?_
      | refine LeO.bind ?_ (fun _ => ?_)
set_option maxHeartbeats 8000000 in
set_option maxRecDepth 100000 in
theorem avocetref07_Custom.calls (k : Nat) (a0 : ByteArray) (A1 : Option Addr) (c1 : Nat) (l1 : List Int) (r1 : Int) (r2 : List Int) (r3 : Int) (w : World) (hr1 : Kd.C (Kd.int .u8) w A1 l1.length l1) (hc1 : l1.length ≤ c1) (h : avocetref07_Custom.f k a0 l1 = some (r1, r2, r3)) :
    Calls Tryd.prog 21 #[.string a0, .slice A1 l1.length c1] w fun e w' => ∃ v1_ : Value, e = .returned (.tuple #[.agg #[.int .i64 r1, v1_], .int .i64 r3]) ∧ Kd.R (Kd.int .u8) 5 w' w.heap.size (fun _ => True) v1_ r2 ∧ Below w.heap.size w w' := by
  have hu36 := Tryd.underlying36
  have HR1 := Aside0.mk hr1
  have HC1 := Aside0.mk hc1
  clear hr1 hc1
  have HB := Aside0.mk (Below.refl w.heap.size w)
  have H : ((avocetref03_Lay.f k ([] : List Int) a0).bind fun bt367 => (if bt367.2 = 0 then (if bt367.1.length + l1.length < 140737488355328 then (some (0, (bt367.1 ++ l1), 0)) else (none)) else (some (0, ([] : List Int), bt367.2)))) = some (r1, r2, r3) := h
  clear h
  replace H := Option.bind_eq_some_iff.mp H
  obtain ⟨⟨t367, t368⟩, A30, H⟩ := H
  replace H : (if t368 = 0 then (if t367.length + l1.length < 140737488355328 then (some (0, (t367 ++ l1), 0)) else (none)) else (some (0, ([] : List Int), t368))) = some (r1, r2, r3) := H
  have A3 := Aside0.mk A30
  clear A30
  by_cases c4 : t368 = 0
  · rw [if_pos c4] at H
    have c4b0 : (t368 == 0) = true := beq_iff_eq.mpr c4
    have c4b1 : (t368 != 0) = false := bne_eq_false_iff_eq.mpr c4
    clear c4
    by_cases c5 : t367.length + l1.length < 140737488355328
    · rw [if_pos c5] at H
      have LMc5 := Aside0.mk c5
      clear c5
      obtain ⟨y371, hy371⟩ : ∃ y_ : List Int, y_ = (t367 ++ l1) := ⟨_, rfl⟩
      replace H : (some (0, y371, 0)) = some (r1, r2, r3) := by first | (rw [hy371]; with_reducible exact H) | (have H2_ := (Option.bind_some _ _).symm.trans H; rw [hy371]; with_reducible exact H2_) | (have H2_ := (Option.bind_some _ _).symm.trans H; with_reducible exact H2_) | with_reducible exact H | (rw [hy371]; exact H) | exact H
      have Ny371 := Aside0.mk hy371
      clear hy371
      simp only [Option.some.injEq, Prod.mk.injEq] at H
      obtain ⟨rfl, rfl, rfl⟩ := H
      go_enter Tryd.func21, Tryd.ntmps21
      go_wp2_with (first | ((with_reducible refine gate_dst (N := 4) rfl ?_); refine box_event ?hg (N := 4) ?hd (cs := #[.int .i64 0, .slice none 0 0]) (t := 36) ?hr ?_; (case hd => rfl); (case hg => rfl); (case hr => first | (go_simp; done) | (go_simp; rfl)); intro gb366 hg w6 hbox hb; have n0_ := Aside0.mk (below_step (by repeat (first | (with_reducible first | exact HB.out | apply below_alloc | apply pw_below_drewN | apply below_drew1) | exact HB.out)) hb); have n1_ := Aside0.mk (hbox); have n2_ := Aside0.mk ((by rw [hg]; exact (below_size (by repeat (first | (with_reducible first | exact HB.out | apply below_alloc | apply pw_below_drewN | apply below_drew1) | exact HB.out))) : w.heap.size ≤ gb366)); have n3_ := Aside0.mk ((by rw [hg]; exact (below_size (by repeat (first | (with_reducible first | exact HB.out | apply below_alloc | apply pw_below_drewN | apply below_drew1) | exact HB.out))) : w.heap.size ≤ gb366)); clear HB; have HB := n0_; have BK366 := n1_; have GW366 := n2_; have GE366 := n3_; clear n0_ n1_ n2_ n3_; clear hb hbox hg) | ((with_reducible refine gate_callee (f := 34) rfl ?_); refine goesL_ (some 10) rfl rfl Tryd.func34 (by kernel_rfl) rfl #[.slice none 0 0, .string a0] rfl (by (try simp only [List.map_toArray, List.map_cons, List.map_nil]); first | done | rfl | (simp only [List.length_drop, List.length_take]; rfl)) ?_; (refine (avocetref03_Lay.calls k _ _ ([] : List Int) a0 t367 t368 _ ?side1 ?side2 A3.out).mono ?_); (case side1 => exact Kd.C_nil _ _); (case side2 => exact Nat.le_refl _); rintro e w7 ⟨v369, rfl, ho0, hb⟩; refine ⟨_, rfl, ?_⟩; have n0_ := Aside0.mk (Kd.R_lower ho0 (below_size (by repeat (first | (with_reducible first | exact HB.out | apply below_alloc | apply pw_below_drewN | apply below_drew1 | refine below_set ?_ GE366.out) | exact HB.out)))); have n1_ := Aside0.mk (blk_below (g := gb366) (o := .cells #[.int .i64 0, .slice none 0 0] 36 (0, 0)) (by (with_reducible repeat (first | refine blk_drewN ?_ _ | refine blk_drew ?_ | refine blk_alloc ?_ _)); exact BK366.out) hb); have n2_ := Aside0.mk (below_step (by repeat (first | (with_reducible first | exact HB.out | apply below_alloc | apply pw_below_drewN | apply below_drew1 | refine below_set ?_ GE366.out) | exact HB.out)) hb); clear BK366; clear HB; have HO370 := n0_; have BK366 := n1_; have HB := n2_; clear n0_ n1_ n2_; (try clear hb); (try clear hb2); (try clear hk); (try clear hi); (try clear ho0)) | ((with_reducible refine gate_builtin (b := .append) (xs := #[.tmp 17, .tmp 18]) rfl ?_); at_builtin; refine Kd.R_append_rows (Kd.int .u8) (w0 := w) w.heap.size rfl (.tmp 17) (.tmp 18) 25 5 (.int .u8 0) 1 rfl Tryd.underlying25 info5 rfl (by decide) (by omega) v369 t367 l1 _ _ _ (fun _ => True) (fun _ => False) rfl rfl ?aO ?aR (fun _ _ h => h) (fun _ h => h.elim) ?aF ?aB ?aS ?aL ?_; (case aR => repeat (first | exact (Kd.C_below HR1.out HB.out) | (with_reducible refine Kd.C_alloc ?_ _) | (with_reducible refine Kd.C_drewN ?_ _) | (with_reducible refine Kd.C_drew ?_))); (case aB => exact (by repeat (first | (with_reducible first | exact HB.out | apply below_alloc | apply pw_below_drewN | apply below_drew1 | refine below_set ?_ GE366.out) | exact HB.out))); (case aF => exact (fun _ _ => trivial)); (case aO => exact (by (with_reducible repeat (first | apply Kd.R_alloc | apply Kd.R_drewN | apply Kd.R_drew)); exact HO370.out)); (case aS => exact (below_size (by repeat (first | (with_reducible first | exact HB.out | apply below_alloc | apply pw_below_drewN | apply below_drew1 | refine below_set ?_ GE366.out) | exact HB.out)))); (case aL => have := LMc5.out; omega); intro v372 w8 ho hb hg hat; rw [← Ny371.out] at ho; have n0_ := Aside0.mk (blk_grown (g := gb366) (o := .cells #[.int .i64 0, .slice none 0 0] 36 (0, 0)) (by (with_reducible repeat (first | refine blk_drewN ?_ _ | refine blk_drew ?_ | refine blk_alloc ?_ _)); exact BK366.out) hg (Kd.R_ne HO370.out BK366.out (by decide))); have n1_ := Aside0.mk (hb); have n2_ := Aside0.mk (ho); clear BK366; clear HB; clear HO370; have BK366 := n0_; have HB := n1_; have HO373 := n2_; clear n0_ n1_ n2_; clear ho hb hg hat; obtain ⟨Ao9, co9, eo9⟩ := Kd.R_slice HO373.out; subst eo9; have hcz10_0 : w8.cell? ⟨gb366, 0, none⟩ = some (.int .i64 0) := (blk_cell BK366.out 0).trans rfl; have hcz10_1 : w8.cell? ⟨gb366, 1, none⟩ = some (.slice none 0 0) := (blk_cell BK366.out 1).trans rfl; have hfz10_0 := blk_frozen BK366.out 0; have hfz10_1 := blk_frozen BK366.out 1))
      refine bodyPost_ret (results_ct rfl _ _ gb366 36 #[.int .i64 0, .slice Ao9 y371.length co9] (0, 0) _ rfl (by (with_reducible repeat (first | refine blk_drewN ?_ _ | refine blk_drew ?_ | refine blk_alloc ?_ _)); refine blk_put (cs := #[.int .i64 0, .slice none 0 0]) ?_ 1 _ rfl; (with_reducible repeat (first | refine blk_drewN ?_ _ | refine blk_drew ?_ | refine blk_alloc ?_ _)); refine blk_put (cs := #[.int .i64 0, .slice none 0 0]) ?_ 0 _ rfl; (with_reducible repeat (first | refine blk_drewN ?_ _ | refine blk_drew ?_ | refine blk_alloc ?_ _)); exact BK366.out) Tryd.underlying36 rfl (by kernel_rfl)) rfl ?_
      exact ⟨_, by first | rfl | (simp [errW_none, errW_some] <;> rfl) | (simp [*, errW_none, errW_some] <;> rfl), by (with_reducible repeat (first | apply Kd.R_alloc | apply Kd.R_drewN | apply Kd.R_drew)); exact Kd.R_mono (Kd.R_far (p := ⟨gb366, 1, none⟩) (Kd.R_far (p := ⟨gb366, 0, none⟩) (Kd.R_types HO373.out BK366.out (by decide)) (fun _ hk => hk.2) (.int .i64 0)) (fun _ hk => hk.2) (.slice Ao9 y371.length co9)) (fun _ hk => trivial), by repeat (first | (with_reducible first | exact HB.out | apply below_alloc | apply pw_below_drewN | apply below_drew1 | refine below_set ?_ GE366.out) | exact HB.out)⟩
    · rw [if_neg c5] at H
      exact absurd H (by simp)
  · rw [if_neg c4] at H
    have c4b0 : (t368 == 0) = false := beq_eq_false_iff_ne.mpr c4
    have c4b1 : (t368 != 0) = true := bne_iff_ne.mpr c4
    simp only [Option.some.injEq, Prod.mk.injEq] at H
    obtain ⟨rfl, rfl, rfl⟩ := H
    go_enter Tryd.func21, Tryd.ntmps21
    go_wp2_with (first | ((with_reducible refine gate_dst (N := 4) rfl ?_); refine box_event ?hg (N := 4) ?hd (cs := #[.int .i64 0, .slice none 0 0]) (t := 36) ?hr ?_; (case hd => rfl); (case hg => rfl); (case hr => first | (go_simp; done) | (go_simp; rfl)); intro gb366 hg w11 hbox hb; have n0_ := Aside0.mk (below_step (by repeat (first | (with_reducible first | exact HB.out | apply below_alloc | apply pw_below_drewN | apply below_drew1) | exact HB.out)) hb); have n1_ := Aside0.mk (hbox); have n2_ := Aside0.mk ((by rw [hg]; exact (below_size (by repeat (first | (with_reducible first | exact HB.out | apply below_alloc | apply pw_below_drewN | apply below_drew1) | exact HB.out))) : w.heap.size ≤ gb366)); have n3_ := Aside0.mk ((by rw [hg]; exact (below_size (by repeat (first | (with_reducible first | exact HB.out | apply below_alloc | apply pw_below_drewN | apply below_drew1) | exact HB.out))) : w.heap.size ≤ gb366)); clear HB; have HB := n0_; have BK366 := n1_; have GW366 := n2_; have GE366 := n3_; clear n0_ n1_ n2_ n3_; clear hb hbox hg) | ((with_reducible refine gate_callee (f := 34) rfl ?_); refine goesL_ (some 10) rfl rfl Tryd.func34 (by kernel_rfl) rfl #[.slice none 0 0, .string a0] rfl (by (try simp only [List.map_toArray, List.map_cons, List.map_nil]); first | done | rfl | (simp only [List.length_drop, List.length_take]; rfl)) ?_; (refine (avocetref03_Lay.calls k _ _ ([] : List Int) a0 t367 t368 _ ?side1 ?side2 A3.out).mono ?_); (case side1 => exact Kd.C_nil _ _); (case side2 => exact Nat.le_refl _); rintro e w12 ⟨v369, rfl, ho0, hb⟩; refine ⟨_, rfl, ?_⟩; have n0_ := Aside0.mk (Kd.R_lower ho0 (below_size (by repeat (first | (with_reducible first | exact HB.out | apply below_alloc | apply pw_below_drewN | apply below_drew1 | refine below_set ?_ GE366.out) | exact HB.out)))); have n1_ := Aside0.mk (blk_below (g := gb366) (o := .cells #[.int .i64 0, .slice none 0 0] 36 (0, 0)) (by (with_reducible repeat (first | refine blk_drewN ?_ _ | refine blk_drew ?_ | refine blk_alloc ?_ _)); exact BK366.out) hb); have n2_ := Aside0.mk (below_step (by repeat (first | (with_reducible first | exact HB.out | apply below_alloc | apply pw_below_drewN | apply below_drew1 | refine below_set ?_ GE366.out) | exact HB.out)) hb); clear BK366; clear HB; have HO370 := n0_; have BK366 := n1_; have HB := n2_; clear n0_ n1_ n2_; (try clear hb); (try clear hb2); (try clear hk); (try clear hi); (try clear ho0); have hcz13_0 : w12.cell? ⟨gb366, 0, none⟩ = some (.int .i64 0) := (blk_cell BK366.out 0).trans rfl; have hcz13_1 : w12.cell? ⟨gb366, 1, none⟩ = some (.slice none 0 0) := (blk_cell BK366.out 1).trans rfl; have hfz13_0 := blk_frozen BK366.out 0; have hfz13_1 := blk_frozen BK366.out 1))
    refine bodyPost_ret (results_ct rfl _ _ gb366 36 #[.int .i64 0, .slice none 0 0] (0, 0) _ rfl (by (with_reducible repeat (first | refine blk_drewN ?_ _ | refine blk_drew ?_ | refine blk_alloc ?_ _)); refine blk_put (cs := #[.int .i64 0, .slice none 0 0]) ?_ 1 _ rfl; (with_reducible repeat (first | refine blk_drewN ?_ _ | refine blk_drew ?_ | refine blk_alloc ?_ _)); refine blk_put (cs := #[.int .i64 0, .slice none 0 0]) ?_ 0 _ rfl; (with_reducible repeat (first | refine blk_drewN ?_ _ | refine blk_drew ?_ | refine blk_alloc ?_ _)); exact BK366.out) Tryd.underlying36 rfl (by kernel_rfl)) rfl ?_
    exact ⟨_, by first | rfl | (simp [errW_none, errW_some] <;> rfl) | (simp [*, errW_none, errW_some] <;> rfl), by first | exact Kd.R_nil _ _ _ _ _ | exact Kd.N_nil _ _ _ _ _ | exact Kd.V_nil _ _ _ _ _ | exact Kd.Q_nil _ _ _ _ _ | exact Kd.S_nil _ _ _ _ _, by repeat (first | (with_reducible first | exact HB.out | apply below_alloc | apply pw_below_drewN | apply below_drew1 | refine below_set ?_ GE366.out) | exact HB.out)⟩

end Go.Proofs.YtoeknjmdlmhajaaDoor.G
