-- Made by gprint.py (mine) over the kit's print.py, out of the translation; parts of it typed by hand.
import Derived.Test.YtagblobimoedcaaG0
import Derived.Test.YtagblobimoedcaaG1
namespace Go.Proofs.Ytagblobimoedcaa.G
open Go.RowKit Go.Proofs.YtagblobimoedcaaW.PrintWords Go.Proofs.YtagblobimoedcaaW.PrintLast Go.Proofs.YtagblobimoedcaaW.PrintMore
attribute [local go_sem] max2_int min2_int max_two min_two max_three min_three max_four min_four   -- for this text's walks alone
set_option linter.unusedVariables false
set_option linter.unusedSimpArgs false

/-! ### avocetref09_Same: function 15 -/
mutual
def avocetref09_Same.j0 : Nat → Bool → List Int → List (S59) → List Int → List (S59) → Option (Bool)
  | 0, _, _, _, _, _ => none
  | k + 1, x21, x152000, x152001, x153000, x153001 => if x21 = true then (some false) else (avocetref09_Same.l0 k 0 x152000 x152001 x153000 x153001)
def avocetref09_Same.l0 : Nat → Int → List Int → List (S59) → List Int → List (S59) → Option (Bool)
  | 0, _, _, _, _, _ => none
  | k + 1, x5, x152000, x152001, x153000, x153001 => if x5 < (x152001.length : Int) then (if 0 ≤ x5 then (if x5 < (x153001.length : Int) then ((avocetref09_SameCtrl.f ((rd_T59 x152001 x5).f0) ((rd_T59 x152001 x5).f1) ((rd_T59 x152001 x5).f2) ((rd_T59 x152001 x5).f3) ((rd_T59 x153001 x5).f0) ((rd_T59 x153001 x5).f1) ((rd_T59 x153001 x5).f2) ((rd_T59 x153001 x5).f3)).bind fun t155 => (if t155 = true then (avocetref09_Same.l0 k (wrap64 (x5 + 1)) x152000 x152001 x153000 x153001) else (some false))) else (none)) else (none)) else (some true)
end
def avocetref09_Same.f (k : Nat) (l0_0 : List Int) (l0_1 : List (S59)) (l1_0 : List Int) (l1_1 : List (S59)) : Option (Bool) := if (strOfNums l0_0).toList = (strOfNums l1_0).toList then (avocetref09_Same.j0 k ((l0_1.length : Int) != (l1_1.length : Int)) l0_0 l0_1 l1_0 l1_1) else (avocetref09_Same.j0 k true l0_0 l0_1 l1_0 l1_1)
theorem avocetref09_Same.mono_l : ∀ k, (∀ y0 y1 y2 y3 y4, LeO (avocetref09_Same.j0 k y0 y1 y2 y3 y4) (avocetref09_Same.j0 (k + 1) y0 y1 y2 y3 y4)) ∧ (∀ y0 y1 y2 y3 y4, LeO (avocetref09_Same.l0 k y0 y1 y2 y3 y4) (avocetref09_Same.l0 (k + 1) y0 y1 y2 y3 y4))
  | 0 => ⟨fun _ _ _ _ _ r h => by simp [avocetref09_Same.j0] at h, fun _ _ _ _ _ r h => by simp [avocetref09_Same.l0] at h⟩
  | k + 1 => by
    obtain ⟨ih0, ih1⟩ := avocetref09_Same.mono_l k
    refine ⟨?_, ?_⟩
    · intro y0 y1 y2 y3 y4
      unfold avocetref09_Same.j0
      repeat' first
      | (with_reducible exact ih0 _ _ _ _ _)
      | (with_reducible exact ih1 _ _ _ _ _)
      | (with_reducible exact LeO.refl _)
      | (with_reducible exact LeO.none _)
      | (with_reducible refine LeO.ite ?_ ?_)
      | (with_reducible refine LeO.bind ?_ (fun _ => ?_))
      | exact ih0 _ _ _ _ _
      | exact ih1 _ _ _ _ _
      | exact LeO.none _
      | refine LeO.ite ?_ ?_
      | refine LeO.bind ?_ (fun _ => ?_)
    · intro y0 y1 y2 y3 y4
      unfold avocetref09_Same.l0
      repeat' first
      | (with_reducible exact ih0 _ _ _ _ _)
      | (with_reducible exact ih1 _ _ _ _ _)
      | (with_reducible exact LeO.refl _)
      | (with_reducible exact LeO.none _)
      | (with_reducible refine LeO.ite ?_ ?_)
      | (with_reducible refine LeO.bind ?_ (fun _ => ?_))
      | exact ih0 _ _ _ _ _
      | exact ih1 _ _ _ _ _
      | exact LeO.none _
      | refine LeO.ite ?_ ?_
      | refine LeO.bind ?_ (fun _ => ?_)
theorem avocetref09_Same.mono : ∀ a0 a1 a2 a3 k, LeO (avocetref09_Same.f k a0 a1 a2 a3) (avocetref09_Same.f (k + 1) a0 a1 a2 a3) := by
  intro a0 a1 a2 a3 k
  obtain ⟨ih0, ih1⟩ := avocetref09_Same.mono_l k
  unfold avocetref09_Same.f
  repeat' first
      | (with_reducible exact ih0 _ _ _ _ _)
      | (with_reducible exact ih1 _ _ _ _ _)
      | (with_reducible exact LeO.refl _)
      | (with_reducible exact LeO.none _)
      | (with_reducible refine LeO.ite ?_ ?_)
      | (with_reducible refine LeO.bind ?_ (fun _ => ?_))
      | exact ih0 _ _ _ _ _
      | exact ih1 _ _ _ _ _
      | exact LeO.none _
      | refine LeO.ite ?_ ?_
      | refine LeO.bind ?_ (fun _ => ?_)
def avocetref09_Same.T6 : Bool × List (List Nat × List Nat) := (true, [([], []), ([0], [0]), ([], []), ([1, 2], [1, 2]), ([3], [3]), ([], []), ([5], [5]), ([], []), ([6, 7], [6, 7]), ([8], [8]), ([4, 9], [4, 9]), ([10], [10])])
def avocetref09_Same.B6 : List Nat := [0, 1, 0, 7, 15, 0, 32, 0, 224, 480, 1023, 2047]
theorem avocetref09_Same.tab6 : rtab .any (opsOf Try.f15 6) = avocetref09_Same.T6 := by kernel_rfl
theorem avocetref09_Same.bits6 : waitsOk avocetref09_Same.T6.2 avocetref09_Same.B6 = true := by kernel_rfl
set_option maxHeartbeats 8000000 in
set_option maxRecDepth 100000 in
theorem avocetref09_Same.calls (k : Nat) (A0_0 : Option Addr) (c0_0 : Nat) (l0_0 : List Int) (A0_1 : Option Addr) (c0_1 : Nat) (l0_1 : List (S59)) (A1_0 : Option Addr) (c1_0 : Nat) (l1_0 : List Int) (A1_1 : Option Addr) (c1_1 : Nat) (l1_1 : List (S59)) (r : Bool) (w : World) (hr0_0 : Kd.C (Kd.int .u8) w A0_0 l0_0.length l0_0) (hc0_0 : l0_0.length ≤ c0_0) (hr0_1 : Kd.C k59 w A0_1 l0_1.length l0_1) (hc0_1 : l0_1.length ≤ c0_1) (hr1_0 : Kd.C (Kd.int .u8) w A1_0 l1_0.length l1_0) (hc1_0 : l1_0.length ≤ c1_0) (hr1_1 : Kd.C k59 w A1_1 l1_1.length l1_1) (hc1_1 : l1_1.length ≤ c1_1) (h : avocetref09_Same.f k l0_0 l0_1 l1_0 l1_1 = some r) :
    Calls Try.prog 15 #[.agg #[.slice A0_0 l0_0.length c0_0, .slice A0_1 l0_1.length c0_1], .agg #[.slice A1_0 l1_0.length c1_0, .slice A1_1 l1_1.length c1_1]] w fun e w' => e = .returned (.bool r) ∧ Below w.heap.size w w' := by
  have hu39 := Try.underlying39
  have hu59 := Try.underlying59
  have HR0_0 := Aside0.mk hr0_0
  have HC0_0 := Aside0.mk hc0_0
  clear hr0_0 hc0_0
  have HR0_1 := Aside0.mk hr0_1
  have HC0_1 := Aside0.mk hc0_1
  clear hr0_1 hc0_1
  have HR1_0 := Aside0.mk hr1_0
  have HC1_0 := Aside0.mk hc1_0
  clear hr1_0 hc1_0
  have HR1_1 := Aside0.mk hr1_1
  have HC1_1 := Aside0.mk hc1_1
  clear hr1_1 hc1_1
  have HB := Aside0.mk (Below.refl w.heap.size w)
  have H : (if (strOfNums l0_0).toList = (strOfNums l1_0).toList then (avocetref09_Same.j0 k ((l0_1.length : Int) != (l1_1.length : Int)) l0_0 l0_1 l1_0 l1_1) else (avocetref09_Same.j0 k true l0_0 l0_1 l1_0 l1_1)) = some r := h
  clear h
  have HC3 := Aside0.mk H
  clear H
  go_enter Try.func15, Try.ntmps15
  go_upto_region 1 with (first | ((with_reducible refine gate_dst (N := 2) rfl ?_); (try (refine gate_guard (by rfl) ?_; dsimp only)); refine box_event ?hg (N := 2) ?hd (cs := #[.slice A0_0 l0_0.length c0_0, .slice A0_1 l0_1.length c0_1]) (t := 39) ?hr ?_; (case hd => rfl); (case hg => rfl); (case hr => first | (go_simp; done) | (go_simp; rfl)); intro gb151 hg w4 hbox hb; have n0_ := Aside0.mk (below_step (by repeat (first | (with_reducible first | exact HB.out | apply below_alloc | apply pw_below_drewN | apply below_drew1) | exact HB.out)) hb); have n1_ := Aside0.mk (hbox); have n2_ := Aside0.mk ((by rw [hg]; exact (below_size (by repeat (first | (with_reducible first | exact HB.out | apply below_alloc | apply pw_below_drewN | apply below_drew1) | exact HB.out))) : w.heap.size ≤ gb151)); have n3_ := Aside0.mk ((by rw [hg]; exact (below_size (by repeat (first | (with_reducible first | exact HB.out | apply below_alloc | apply pw_below_drewN | apply below_drew1) | exact HB.out))) : w.heap.size ≤ gb151)); clear HB; have HB := n0_; have BK151 := n1_; have GW151 := n2_; have GE151 := n3_; clear n0_ n1_ n2_ n3_; clear hb hbox hg) | ((with_reducible refine gate_dst (N := 3) rfl ?_); (try (refine gate_guard (by rfl) ?_; dsimp only)); refine box_event ?hg (N := 3) ?hd (cs := #[.slice A1_0 l1_0.length c1_0, .slice A1_1 l1_1.length c1_1]) (t := 39) ?hr ?_; (case hd => rfl); (case hg => rfl); (case hr => first | (go_simp; done) | (go_simp; rfl)); intro gb152 hg w5 hbox hb; have n0_ := Aside0.mk (blk_below (g := gb151) (o := .cells #[.slice A0_0 l0_0.length c0_0, .slice A0_1 l0_1.length c0_1] 39 (0, 0)) (by (with_reducible repeat (first | refine blk_drewN ?_ _ | refine blk_drew ?_ | refine blk_alloc ?_ _)); exact BK151.out) hb); have n1_ := Aside0.mk (below_step (by repeat (first | (with_reducible first | exact HB.out | apply below_alloc | apply pw_below_drewN | apply below_drew1 | refine below_set ?_ GE151.out) | exact HB.out)) hb); have n2_ := Aside0.mk (hbox); have n3_ := Aside0.mk ((by rw [hg]; exact (below_size (by repeat (first | (with_reducible first | exact HB.out | apply below_alloc | apply pw_below_drewN | apply below_drew1 | refine below_set ?_ GE151.out) | exact HB.out))) : w.heap.size ≤ gb152)); have n4_ := Aside0.mk ((by rw [hg]; exact (below_size (by repeat (first | (with_reducible first | exact HB.out | apply below_alloc | apply pw_below_drewN | apply below_drew1 | refine below_set ?_ GE151.out) | exact HB.out))) : w.heap.size ≤ gb152)); have n5_ := Aside0.mk ((by rw [hg]; exact Nat.ne_of_lt (blk_lt (g := gb151) (o := .cells #[.slice A0_0 l0_0.length c0_0, .slice A0_1 l0_1.length c0_1] 39 (0, 0)) (by (with_reducible repeat (first | refine blk_drewN ?_ _ | refine blk_drew ?_ | refine blk_alloc ?_ _)); exact BK151.out)) : gb151 ≠ gb152)); have n6_ := Aside0.mk ((by rw [hg]; exact Nat.ne_of_gt (blk_lt (g := gb151) (o := .cells #[.slice A0_0 l0_0.length c0_0, .slice A0_1 l0_1.length c0_1] 39 (0, 0)) (by (with_reducible repeat (first | refine blk_drewN ?_ _ | refine blk_drew ?_ | refine blk_alloc ?_ _)); exact BK151.out)) : gb152 ≠ gb151)); clear BK151; clear HB; have BK151 := n0_; have HB := n1_; have BK152 := n2_; have GW152 := n3_; have GE152 := n4_; have NB151_152 := n5_; have NB152_151 := n6_; clear n0_ n1_ n2_ n3_ n4_ n5_ n6_; clear hb hbox hg))
  (try simp only [Act.put, List.setIfInBounds_toArray, List.set_cons_zero, List.set_cons_succ])
  go_cut [21] (fun v21 wc => ∃ (kq : Nat) (x21_2 : Bool), v21 = .bool x21_2 ∧ Aside0 (avocetref09_Same.j0 kq x21_2 l0_0 l0_1 l1_0 l1_1 = some r) ∧ Aside0 (kq ≤ k) ∧ Aside0 (wc.heap[gb151]? = some (.cells #[(.slice A0_0 l0_0.length c0_0), (.slice A0_1 l0_1.length c0_1)] 39 (0, 0))) ∧ Aside0 (wc.heap[gb152]? = some (.cells #[(.slice A1_0 l1_0.length c1_0), (.slice A1_1 l1_1.length c1_1)] 39 (0, 0))) ∧ Aside0 (Below w.heap.size w wc))
  case first =>
    have H := HC3.out
    clear HC3
    by_cases c6 : (strOfNums l0_0).toList = (strOfNums l1_0).toList
    · rw [if_pos c6] at H
      have c6b0 : ((strOfNums l0_0).toList == (strOfNums l1_0).toList) = true := beq_iff_eq.mpr c6
      have c6b1 : ((strOfNums l0_0).toList != (strOfNums l1_0).toList) = false := bne_eq_false_iff_eq.mpr c6
      clear c6
      (first | rw [c6b0] | (simp only [i64_w, i32_w]; rw [c6b0]) | skip)
      have H' := Aside0.mk H
      clear H
      have hnb7 := NB151_152.out
      have hnc7 := NB152_151.out
      have hcz8_0 : w5.cell? ⟨gb151, 0, none⟩ = some (.slice A0_0 l0_0.length c0_0) := (blk_cell BK151.out 0).trans rfl
      have hcz8_1 : w5.cell? ⟨gb151, 1, none⟩ = some (.slice A0_1 l0_1.length c0_1) := (blk_cell BK151.out 1).trans rfl
      have hfz8_0 := blk_frozen BK151.out 0
      have hfz8_1 := blk_frozen BK151.out 1
      have hcv9 := Kd.C_string (P := Try.prog) (A := A0_0) (c := c0_0) Try.underlying25 Try.underlying5 Try.underlying9 (Kd.C_below HR0_0.out HB.out)
      have hcz10_0 : w5.cell? ⟨gb152, 0, none⟩ = some (.slice A1_0 l1_0.length c1_0) := (blk_cell BK152.out 0).trans rfl
      have hcz10_1 : w5.cell? ⟨gb152, 1, none⟩ = some (.slice A1_1 l1_1.length c1_1) := (blk_cell BK152.out 1).trans rfl
      have hfz10_0 := blk_frozen BK152.out 0
      have hfz10_1 := blk_frozen BK152.out 1
      have hcv11 := Kd.C_string (P := Try.prog) (A := A1_0) (c := c1_0) Try.underlying25 Try.underlying5 Try.underlying9 (Kd.C_below HR1_0.out HB.out)
      go_wp2
      go_meet
      case rel => exact ⟨_, (((l0_1.length : Int) != (l1_1.length : Int))), (by first | rfl | (simp; done) | (simp [*]; done)), H', ⟨by first | omega | exact Nat.le_refl _⟩, ⟨by (with_reducible repeat (first | refine blk_drewN ?_ _ | refine blk_drew ?_ | refine blk_alloc ?_ _)); exact BK151.out⟩, ⟨by (with_reducible repeat (first | refine blk_drewN ?_ _ | refine blk_drew ?_ | refine blk_alloc ?_ _)); exact BK152.out⟩, ⟨by repeat (first | (with_reducible first | exact HB.out | apply below_alloc | apply pw_below_drewN | apply below_drew1 | refine below_set ?_ GE151.out | refine below_set ?_ GE152.out) | exact HB.out)⟩⟩
    · rw [if_neg c6] at H
      have c6b0 : ((strOfNums l0_0).toList == (strOfNums l1_0).toList) = false := beq_eq_false_iff_ne.mpr c6
      have c6b1 : ((strOfNums l0_0).toList != (strOfNums l1_0).toList) = true := bne_iff_ne.mpr c6
      (first | rw [c6b0] | (simp only [i64_w, i32_w]; rw [c6b0]) | skip)
      have H' := Aside0.mk H
      clear H
      have hnb12 := NB151_152.out
      have hnc12 := NB152_151.out
      have hcz13_0 : w5.cell? ⟨gb151, 0, none⟩ = some (.slice A0_0 l0_0.length c0_0) := (blk_cell BK151.out 0).trans rfl
      have hcz13_1 : w5.cell? ⟨gb151, 1, none⟩ = some (.slice A0_1 l0_1.length c0_1) := (blk_cell BK151.out 1).trans rfl
      have hfz13_0 := blk_frozen BK151.out 0
      have hfz13_1 := blk_frozen BK151.out 1
      have hcv14 := Kd.C_string (P := Try.prog) (A := A0_0) (c := c0_0) Try.underlying25 Try.underlying5 Try.underlying9 (Kd.C_below HR0_0.out HB.out)
      have hcz15_0 : w5.cell? ⟨gb152, 0, none⟩ = some (.slice A1_0 l1_0.length c1_0) := (blk_cell BK152.out 0).trans rfl
      have hcz15_1 : w5.cell? ⟨gb152, 1, none⟩ = some (.slice A1_1 l1_1.length c1_1) := (blk_cell BK152.out 1).trans rfl
      have hfz15_0 := blk_frozen BK152.out 0
      have hfz15_1 := blk_frozen BK152.out 1
      have hcv16 := Kd.C_string (P := Try.prog) (A := A1_0) (c := c1_0) Try.underlying25 Try.underlying5 Try.underlying9 (Kd.C_below HR1_0.out HB.out)
      go_wp2
      go_meet
      case rel => exact ⟨_, (true), (by first | rfl | (simp; done) | (simp [*]; done)), H', ⟨by first | omega | exact Nat.le_refl _⟩, ⟨by (with_reducible repeat (first | refine blk_drewN ?_ _ | refine blk_drew ?_ | refine blk_alloc ?_ _)); exact BK151.out⟩, ⟨by (with_reducible repeat (first | refine blk_drewN ?_ _ | refine blk_drew ?_ | refine blk_alloc ?_ _)); exact BK152.out⟩, ⟨by repeat (first | (with_reducible first | exact HB.out | apply below_alloc | apply pw_below_drewN | apply below_drew1 | refine below_set ?_ GE151.out | refine below_set ?_ GE152.out) | exact HB.out)⟩⟩
  case rest =>
    clear HC3
    try clear c1
    try clear hcv1
    try clear p2
    try clear c6
    try clear c6b0
    try clear c6b1
    try clear c7
    try clear hcv9
    try clear hcv11
    try clear c12
    try clear hcv14
    try clear c15
    try clear hcv16
    try clear hcz10_0
    try clear hcz10_1
    try clear hcz13_0
    try clear hcz13_1
    try clear hcz15_0
    try clear hcz15_1
    try clear hcz8_0
    try clear hcz8_1
    try clear hfz10_0
    try clear hfz10_1
    try clear hfz13_0
    try clear hfz13_1
    try clear hfz15_0
    try clear hfz15_1
    try clear hfz8_0
    try clear hfz8_1
    obtain ⟨kq, x21_2, rfl, HA, HJ2, BK151, BK152, HB⟩ := hcut
    cases kq with
    | zero => exact absurd HA.out (by simp [avocetref09_Same.j0])
    | succ kj2 =>
      have H := HA.out
      clear HA
      simp only [avocetref09_Same.j0] at H
      by_cases c17 : x21_2 = true
      · subst c17
        have H1 : (some false) = some r := by rw [if_pos rfl] at H; exact H
        clear H
        have H := H1
        clear H1
        obtain rfl := Option.some.inj H
        go_wp2
        go_ret
        exact ⟨by first | rfl | (simp [errW_none, errW_some] <;> rfl) | (simp [*, errW_none, errW_some] <;> rfl), by repeat (first | (with_reducible first | exact HB.out | apply below_alloc | apply pw_below_drewN | apply below_drew1 | refine below_set ?_ GE151.out | refine below_set ?_ GE152.out) | exact HB.out)⟩
      · replace c17 := Bool.eq_false_iff.mpr c17
        subst c17
        have H1 : (avocetref09_Same.l0 kj2 0 l0_0 l0_1 l1_0 l1_1) = some r := by rw [if_neg (show ¬ (false = true) by decide)] at H; exact H
        clear H
        have H := H1
        clear H1
        have H' := Aside0.mk H
        clear H
        go_wp2
        go_loopg [5] kj2 (fun kq v5 w' => ∃ (x5_2 : Int), v5 = .int .i64 x5_2 ∧ Aside0 (avocetref09_Same.l0 kq x5_2 l0_0 l0_1 l1_0 l1_1 = some r) ∧ Aside0 (kq ≤ kj2) ∧ Aside0 (w'.heap[gb151]? = some (.cells #[(.slice A0_0 l0_0.length c0_0), (.slice A0_1 l0_1.length c0_1)] 39 (0, 0))) ∧ Aside0 (w'.heap[gb152]? = some (.cells #[(.slice A1_0 l1_0.length c1_0), (.slice A1_1 l1_1.length c1_1)] 39 (0, 0))) ∧ Aside0 (Below w.heap.size w w'))
        case atStart => exact ⟨(0), (by first | rfl | (simp; done) | (simp [*]; done)), H', ⟨Nat.le_refl _⟩, ⟨by (with_reducible repeat (first | refine blk_drewN ?_ _ | refine blk_drew ?_ | refine blk_alloc ?_ _)); exact BK151.out⟩, ⟨by (with_reducible repeat (first | refine blk_drewN ?_ _ | refine blk_drew ?_ | refine blk_alloc ?_ _)); exact BK152.out⟩, ⟨by repeat (first | (with_reducible first | exact HB.out | apply below_alloc | apply pw_below_drewN | apply below_drew1 | refine below_set ?_ GE151.out | refine below_set ?_ GE152.out) | exact HB.out)⟩⟩
        case round =>
          clear H'
          try clear c1
          try clear hcv1
          try clear p2
          try clear c6
          try clear c6b0
          try clear c6b1
          try clear c7
          try clear hcv9
          try clear hcv11
          try clear c12
          try clear hcv14
          try clear c15
          try clear hcv16
          try clear c17
          try clear hcz10_0
          try clear hcz10_1
          try clear hcz13_0
          try clear hcz13_1
          try clear hcz15_0
          try clear hcz15_1
          try clear hcz8_0
          try clear hcz8_1
          try clear hfz10_0
          try clear hfz10_1
          try clear hfz13_0
          try clear hfz13_1
          try clear hfz15_0
          try clear hfz15_1
          try clear hfz8_0
          try clear hfz8_1
          try clear p2
          obtain ⟨x5_2, rfl, HA, HK2, BK151, BK152, HB⟩ := hrel
          cases gk with
          | zero => exact absurd HA.out (by simp [avocetref09_Same.l0])
          | succ k2 =>
            have H := HA.out
            clear HA
            simp only [avocetref09_Same.l0] at H
            by_cases c18 : x5_2 < (l0_1.length : Int)
            · rw [if_pos c18] at H
              have c18b0 : decide (x5_2 < (l0_1.length : Int)) = true := decide_eq_true c18
              clear c18
              by_cases c19 : 0 ≤ x5_2
              · rw [if_pos c19] at H
                have c19b0 : decide (0 ≤ x5_2) = true := decide_eq_true c19
                clear c19
                by_cases c20 : x5_2 < (l1_1.length : Int)
                · rw [if_pos c20] at H
                  have c20b0 : decide (x5_2 < (l1_1.length : Int)) = true := decide_eq_true c20
                  clear c20
                  replace H := Option.bind_eq_some_iff.mp H
                  obtain ⟨t155, A210, H⟩ := H
                  replace H : (if t155 = true then (avocetref09_Same.l0 k2 (wrap64 (x5_2 + 1)) l0_0 l0_1 l1_0 l1_1) else (some false)) = some r := H
                  have A21 := Aside0.mk A210
                  clear A210
                  by_cases c22 : t155 = true
                  · subst c22
                    have H1 : (avocetref09_Same.l0 k2 (wrap64 (x5_2 + 1)) l0_0 l0_1 l1_0 l1_1) = some r := by rw [if_pos rfl] at H; exact H
                    clear H
                    have H := H1
                    clear H1
                    have H' := Aside0.mk H
                    clear H
                    have hnb23 := NB151_152.out
                    have hnc23 := NB152_151.out
                    have hcz24_0 : wr.cell? ⟨gb151, 0, none⟩ = some (.slice A0_0 l0_0.length c0_0) := (blk_cell BK151.out 0).trans rfl
                    have hcz24_1 : wr.cell? ⟨gb151, 1, none⟩ = some (.slice A0_1 l0_1.length c0_1) := (blk_cell BK151.out 1).trans rfl
                    have hfz24_0 := blk_frozen BK151.out 0
                    have hfz24_1 := blk_frozen BK151.out 1
                    try go_wp2
                    have n0_ := Aside0.mk (blk_drew BK151.out)
                    have n1_ := Aside0.mk (blk_drew BK152.out)
                    have n2_ := Aside0.mk (below_drew1 HB.out)
                    clear BK151
                    clear BK152
                    clear HB
                    have BK151 := n0_
                    have BK152 := n1_
                    have HB := n2_
                    clear n0_ n1_ n2_
                    have p153 : 0 ≤ (x5_2 : Int) := of_decide_eq_true (by first | (with_reducible assumption) | assumption)
                    have q153 : x5_2 < (l0_1.length : Int) := of_decide_eq_true (by first | (with_reducible assumption) | assumption)
                    obtain ⟨ad153, A153_1, c153_1, e153, hx153_0, hx153_1, hx153_2, hx153_3, hl153_1, hi153_1⟩ := at_T59 HR0_1.out x5_2 p153 q153
                    have hw153_3 := hx153_3
                    have hw153_2 := hx153_2
                    have hw153_1 := hx153_1
                    have hw153_0 := hx153_0
                    cases e153
                    replace hx153_0 := (HB.out.cell (World.block_lt_of_cell? w _ hx153_0)).trans hx153_0
                    replace hx153_1 := (HB.out.cell (World.block_lt_of_cell? w _ hx153_1)).trans hx153_1
                    replace hx153_2 := (HB.out.cell (World.block_lt_of_cell? w _ hx153_2)).trans hx153_2
                    replace hx153_3 := (HB.out.cell (World.block_lt_of_cell? w _ hx153_3)).trans hx153_3
                    have HR153_1 := Aside0.mk hi153_1
                    have HC153_1 := Aside0.mk hl153_1
                    clear hi153_1 hl153_1
                    replace p153 := eq_true p153
                    replace q153 := eq_true q153
                    have p154 : 0 ≤ (x5_2 : Int) := of_decide_eq_true (by first | (with_reducible assumption) | assumption)
                    have q154 : x5_2 < (l1_1.length : Int) := of_decide_eq_true (by first | (with_reducible assumption) | assumption)
                    obtain ⟨ad154, A154_1, c154_1, e154, hx154_0, hx154_1, hx154_2, hx154_3, hl154_1, hi154_1⟩ := at_T59 HR1_1.out x5_2 p154 q154
                    have hw154_3 := hx154_3
                    have hw154_2 := hx154_2
                    have hw154_1 := hx154_1
                    have hw154_0 := hx154_0
                    cases e154
                    replace hx154_0 := (HB.out.cell (World.block_lt_of_cell? w _ hx154_0)).trans hx154_0
                    replace hx154_1 := (HB.out.cell (World.block_lt_of_cell? w _ hx154_1)).trans hx154_1
                    replace hx154_2 := (HB.out.cell (World.block_lt_of_cell? w _ hx154_2)).trans hx154_2
                    replace hx154_3 := (HB.out.cell (World.block_lt_of_cell? w _ hx154_3)).trans hx154_3
                    have HR154_1 := Aside0.mk hi154_1
                    have HC154_1 := Aside0.mk hl154_1
                    clear hi154_1 hl154_1
                    replace p154 := eq_true p154
                    replace q154 := eq_true q154
                    refine start_ (n := 12) (S := fun w' => w'.cell? ⟨gb151, 0, none⟩ = some (.slice A0_0 l0_0.length c0_0) ∧ w'.cell? ⟨gb151, 1, none⟩ = some (.slice (some ad153) l0_1.length c0_1) ∧ w'.cell? ⟨gb152, 0, none⟩ = some (.slice A1_0 l1_0.length c1_0) ∧ w'.cell? ⟨gb152, 1, none⟩ = some (.slice (some ad154) l1_1.length c1_1) ∧ w'.cell? (ad153.add ((x5_2).toNat * 4)) = some (.int .i64 ((rd_T59 l0_1 x5_2).f0)) ∧ w'.cell? ⟨(ad153.add ((x5_2).toNat * 4)).block, (ad153.add ((x5_2).toNat * 4)).off + 1, none⟩ = some (.slice A153_1 ((rd_T59 l0_1 x5_2).f1).length c153_1) ∧ w'.cell? ⟨(ad153.add ((x5_2).toNat * 4)).block, (ad153.add ((x5_2).toNat * 4)).off + 2, none⟩ = some (.int .i64 ((rd_T59 l0_1 x5_2).f2)) ∧ w'.cell? ⟨(ad153.add ((x5_2).toNat * 4)).block, (ad153.add ((x5_2).toNat * 4)).off + 3, none⟩ = some (.bool ((rd_T59 l0_1 x5_2).f3)) ∧ w'.cell? (ad154.add ((x5_2).toNat * 4)) = some (.int .i64 ((rd_T59 l1_1 x5_2).f0)) ∧ w'.cell? ⟨(ad154.add ((x5_2).toNat * 4)).block, (ad154.add ((x5_2).toNat * 4)).off + 1, none⟩ = some (.slice A154_1 ((rd_T59 l1_1 x5_2).f1).length c154_1) ∧ w'.cell? ⟨(ad154.add ((x5_2).toNat * 4)).block, (ad154.add ((x5_2).toNat * 4)).off + 2, none⟩ = some (.int .i64 ((rd_T59 l1_1 x5_2).f2)) ∧ w'.cell? ⟨(ad154.add ((x5_2).toNat * 4)).block, (ad154.add ((x5_2).toNat * 4)).off + 3, none⟩ = some (.bool ((rd_T59 l1_1 x5_2).f3))) (ds := []) #[false, false, false, false, false, false, false, false, false, false, false, false] (by kernel_rfl) rfl rfl ⟨(blk_cell BK151.out 0).trans rfl, (blk_cell BK151.out 1).trans rfl, (blk_cell BK152.out 0).trans rfl, (blk_cell BK152.out 1).trans rfl, ((HB.out.cell (World.block_lt_of_cell? w _ hw153_0)).trans hw153_0), ((HB.out.cell (World.block_lt_of_cell? w _ hw153_1)).trans hw153_1), ((HB.out.cell (World.block_lt_of_cell? w _ hw153_2)).trans hw153_2), ((HB.out.cell (World.block_lt_of_cell? w _ hw153_3)).trans hw153_3), ((HB.out.cell (World.block_lt_of_cell? w _ hw154_0)).trans hw154_0), ((HB.out.cell (World.block_lt_of_cell? w _ hw154_1)).trans hw154_1), ((HB.out.cell (World.block_lt_of_cell? w _ hw154_2)).trans hw154_2), ((HB.out.cell (World.block_lt_of_cell? w _ hw154_3)).trans hw154_3)⟩ (fun hHeld => ?_); refine with_tabW avocetref09_Same.tab6 avocetref09_Same.bits6 (fun HT_ HW_ => ?_)
                    generalize wr.drew = w25 at BK151 BK152 HB HR153_1 HR154_1 hx153_0 hx153_1 hx153_2 hx153_3 hx154_0 hx154_1 hx154_2 hx154_3 hHeld ⊢
                    refine pure_ (i := 0) (N := some 29) (v := ?_) (a' := ?_) #[true, false, false, false, false, false, false, false, false, false, false, false] rfl rfl (any_of HT_.out (by kernel_rfl)) (fun _ _ _ h => h) (Or.inl ⟨by rfl, ?_⟩) ?_ ?_
                    rotate_left
                    · intro w'
                      go_simp
                      with_reducible rfl
                    rotate_left
                    · simp only [Act.put, List.setIfInBounds_toArray, List.set_cons_zero, List.set_cons_succ, i64_w, i32_w]
                      rfl
                    refine pure_ (i := 2) (N := some 31) (v := ?_) (a' := ?_) #[true, false, true, false, false, false, false, false, false, false, false, false] rfl rfl (any_of HT_.out (by kernel_rfl)) (fun _ _ _ h => h) (Or.inl ⟨by rfl, ?_⟩) ?_ ?_
                    rotate_left
                    · intro w'
                      go_simp
                      with_reducible rfl
                    rotate_left
                    · simp only [Act.put, List.setIfInBounds_toArray, List.set_cons_zero, List.set_cons_succ, i64_w, i32_w]
                      rfl
                    refine pure_ (i := 5) (N := some 34) (v := ?_) (a' := ?_) #[true, false, true, false, false, true, false, false, false, false, false, false] rfl rfl (any_of HT_.out (by kernel_rfl)) (fun _ _ _ h => h) (Or.inl ⟨by rfl, ?_⟩) ?_ ?_
                    rotate_left
                    · intro w'
                      go_simp
                      with_reducible rfl
                    rotate_left
                    · simp only [Act.put, List.setIfInBounds_toArray, List.set_cons_zero, List.set_cons_succ, i64_w, i32_w]
                      rfl
                    refine pure_ (i := 7) (N := some 36) (v := ?_) (a' := ?_) #[true, false, true, false, false, true, false, true, false, false, false, false] rfl rfl (any_of HT_.out (by kernel_rfl)) (fun _ _ _ h => h) (Or.inl ⟨by rfl, ?_⟩) ?_ ?_
                    rotate_left
                    · intro w'
                      go_simp
                      with_reducible rfl
                    rotate_left
                    · simp only [Act.put, List.setIfInBounds_toArray, List.set_cons_zero, List.set_cons_succ, i64_w, i32_w]
                      rfl
                    refine take_ (i := 1) (N := some 30) (v := ?_) (a' := ?_) #[true, true, true, false, false, true, false, true, false, false, false, false] rfl rfl (take_ofW HT_.out HW_.out (by kernel_rfl)) (fun _ _ _ h => h) (Or.inl ⟨by rfl, ?_⟩) hHeld ?_ ?_
                    rotate_left
                    · rintro w' ⟨s0, s1, s2, s3, s4, s5, s6, s7, s8, s9, s10, s11⟩
                      go_simp
                      with_reducible rfl
                    rotate_left
                    · simp only [Act.put, List.setIfInBounds_toArray, List.set_cons_zero, List.set_cons_succ, i64_w, i32_w]
                      rfl
                    refine pure_ (i := 3) (N := some 32) (v := ?_) (a' := ?_) #[true, true, true, true, false, true, false, true, false, false, false, false] rfl rfl (any_of HT_.out (by kernel_rfl)) (fun _ _ _ h => h) (Or.inl ⟨by rfl, ?_⟩) ?_ ?_
                    rotate_left
                    · intro w'
                      go_simp
                      with_reducible rfl
                    rotate_left
                    · simp only [Act.put, List.setIfInBounds_toArray, List.set_cons_zero, List.set_cons_succ, i64_w, i32_w]
                      rfl
                    refine take_ (i := 4) (N := some 33) (v := ?_) (a' := ?_) #[true, true, true, true, true, true, false, true, false, false, false, false] rfl rfl (take_ofW HT_.out HW_.out (by kernel_rfl)) (fun _ _ _ h => h) (Or.inl ⟨by rfl, ?_⟩) hHeld ?_ ?_
                    rotate_left
                    · rintro w' ⟨s0, s1, s2, s3, s4, s5, s6, s7, s8, s9, s10, s11⟩
                      go_simp
                      with_reducible rfl
                    rotate_left
                    · simp only [Act.put, List.setIfInBounds_toArray, List.set_cons_zero, List.set_cons_succ, i64_w, i32_w]
                      rfl
                    refine take_ (i := 6) (N := some 35) (v := ?_) (a' := ?_) #[true, true, true, true, true, true, true, true, false, false, false, false] rfl rfl (take_ofW HT_.out HW_.out (by kernel_rfl)) (fun _ _ _ h => h) (Or.inl ⟨by rfl, ?_⟩) hHeld ?_ ?_
                    rotate_left
                    · rintro w' ⟨s0, s1, s2, s3, s4, s5, s6, s7, s8, s9, s10, s11⟩
                      go_simp
                      with_reducible rfl
                    rotate_left
                    · simp only [Act.put, List.setIfInBounds_toArray, List.set_cons_zero, List.set_cons_succ, i64_w, i32_w]
                      rfl
                    refine pure_ (i := 8) (N := some 37) (v := ?_) (a' := ?_) #[true, true, true, true, true, true, true, true, true, false, false, false] rfl rfl (any_of HT_.out (by kernel_rfl)) (fun _ _ _ h => h) (Or.inl ⟨by rfl, ?_⟩) ?_ ?_
                    rotate_left
                    · intro w'
                      go_simp
                      with_reducible rfl
                    rotate_left
                    · simp only [Act.put, List.setIfInBounds_toArray, List.set_cons_zero, List.set_cons_succ, i64_w, i32_w]
                      rfl
                    refine take_ (i := 9) (N := some 38) (v := ?_) (a' := ?_) #[true, true, true, true, true, true, true, true, true, true, false, false] rfl rfl (take_ofW HT_.out HW_.out (by kernel_rfl)) (fun _ _ _ h => h) (Or.inl ⟨by rfl, ?_⟩) hHeld ?_ ?_
                    rotate_left
                    · rintro w' ⟨s0, s1, s2, s3, s4, s5, s6, s7, s8, s9, s10, s11⟩
                      go_simp
                      with_reducible rfl
                    rotate_left
                    · simp only [Act.put, List.setIfInBounds_toArray, List.set_cons_zero, List.set_cons_succ, i64_w, i32_w]
                      rfl
                    refine one_ (i := 10) (N := some 39) #[true, true, true, true, true, true, true, true, true, true, true, false] rfl rfl (one_of HT_.out (by kernel_rfl)) (by decide) (fun K hK => ?_)
                    refine goes_ Try.func32 (by kernel_rfl) rfl #[.agg #[.int .i64 ((rd_T59 l0_1 x5_2).f0), .slice A153_1 ((rd_T59 l0_1 x5_2).f1).length c153_1, .int .i64 ((rd_T59 l0_1 x5_2).f2), .bool ((rd_T59 l0_1 x5_2).f3)], .agg #[.int .i64 ((rd_T59 l1_1 x5_2).f0), .slice A154_1 ((rd_T59 l1_1 x5_2).f1).length c154_1, .int .i64 ((rd_T59 l1_1 x5_2).f2), .bool ((rd_T59 l1_1 x5_2).f3)]] (by rfl) rfl rfl (by (try simp only [List.map_toArray, List.map_cons, List.map_nil]); first | done | rfl | (simp only [List.length_drop, List.length_take]; rfl)) ?_
                    with_reducible refine (avocetref09_SameCtrl.calls ((rd_T59 l0_1 x5_2).f0) _ _ ((rd_T59 l0_1 x5_2).f1) ((rd_T59 l0_1 x5_2).f2) ((rd_T59 l0_1 x5_2).f3) ((rd_T59 l1_1 x5_2).f0) _ _ ((rd_T59 l1_1 x5_2).f1) ((rd_T59 l1_1 x5_2).f2) ((rd_T59 l1_1 x5_2).f3) true _ ?side1 ?side2 ?side3 ?side4 A21.out).mono ?_
                    (case side1 => repeat (first | exact (Kd.C_below HR153_1.out HB.out) | (with_reducible refine Kd.C_alloc ?_ _) | (with_reducible refine Kd.C_drewN ?_ _) | (with_reducible refine Kd.C_drew ?_)))
                    (case side2 => exact HC153_1.out)
                    (case side3 => repeat (first | exact (Kd.C_below HR154_1.out HB.out) | (with_reducible refine Kd.C_alloc ?_ _) | (with_reducible refine Kd.C_drewN ?_ _) | (with_reducible refine Kd.C_drew ?_)))
                    (case side4 => exact HC154_1.out)
                    rintro e w26 ⟨rfl, hb⟩
                    refine ⟨_, rfl, ?_⟩
                    have n0_ := Aside0.mk (blk_below (g := gb151) (o := .cells #[.slice A0_0 l0_0.length c0_0, .slice (some ad153) l0_1.length c0_1] 39 (0, 0)) (by (with_reducible repeat (first | refine blk_drewN ?_ _ | refine blk_drew ?_ | refine blk_alloc ?_ _)); exact BK151.out) hb)
                    have n1_ := Aside0.mk (blk_below (g := gb152) (o := .cells #[.slice A1_0 l1_0.length c1_0, .slice (some ad154) l1_1.length c1_1] 39 (0, 0)) (by (with_reducible repeat (first | refine blk_drewN ?_ _ | refine blk_drew ?_ | refine blk_alloc ?_ _)); exact BK152.out) hb)
                    have n2_ := Aside0.mk (below_step (by repeat (first | (with_reducible first | exact HB.out | apply below_alloc | apply pw_below_drewN | apply below_drew1 | refine below_set ?_ GE151.out | refine below_set ?_ GE152.out) | exact HB.out)) hb)
                    clear BK151
                    clear BK152
                    clear HB
                    have BK151 := n0_
                    have BK152 := n1_
                    have HB := n2_
                    clear n0_ n1_ n2_
                    (try clear hb)
                    (try clear hb2)
                    (try clear hk)
                    (try clear hi)
                    refine hK.out _ _ ⟨(blk_cell BK151.out 0).trans rfl, (blk_cell BK151.out 1).trans rfl, (blk_cell BK152.out 0).trans rfl, (blk_cell BK152.out 1).trans rfl, ((HB.out.cell (World.block_lt_of_cell? w _ hw153_0)).trans hw153_0), ((HB.out.cell (World.block_lt_of_cell? w _ hw153_1)).trans hw153_1), ((HB.out.cell (World.block_lt_of_cell? w _ hw153_2)).trans hw153_2), ((HB.out.cell (World.block_lt_of_cell? w _ hw153_3)).trans hw153_3), ((HB.out.cell (World.block_lt_of_cell? w _ hw154_0)).trans hw154_0), ((HB.out.cell (World.block_lt_of_cell? w _ hw154_1)).trans hw154_1), ((HB.out.cell (World.block_lt_of_cell? w _ hw154_2)).trans hw154_2), ((HB.out.cell (World.block_lt_of_cell? w _ hw154_3)).trans hw154_3)⟩ (fun hHeld => ?_)
                    clear hK K
                    refine norm_ (a' := ?_) ?_ ?_
                    rotate_left
                    · show Act.put _ (some 39) _ = _
                      simp only [Act.put, List.setIfInBounds_toArray, List.set_cons_zero, List.set_cons_succ, i64_w, i32_w]
                      rfl
                    refine pure_ (i := 11) (N := some 40) (v := ?_) (a' := ?_) #[true, true, true, true, true, true, true, true, true, true, true, true] rfl rfl (any_of HT_.out (by kernel_rfl)) (fun _ _ _ h => h) (Or.inl ⟨by rfl, ?_⟩) ?_ ?_
                    rotate_left
                    · intro w'
                      go_simp
                      with_reducible rfl
                    rotate_left
                    · simp only [Act.put, List.setIfInBounds_toArray, List.set_cons_zero, List.set_cons_succ, i64_w, i32_w]
                      rfl
                    refine done_ (done_of HT_.out (by kernel_rfl)) ?_
                    try go_wp2
                    go_roundg k2
                    case measure => have := HJ2.out; have := HK2.out; omega
                    case rel => exact ⟨(wrap64 (x5_2 + 1)), (by first | rfl | (simp; done) | (simp [*]; done)), H', ⟨by have := HJ2.out; have := HK2.out; omega⟩, ⟨by (with_reducible repeat (first | refine blk_drewN ?_ _ | refine blk_drew ?_ | refine blk_alloc ?_ _)); exact BK151.out⟩, ⟨by (with_reducible repeat (first | refine blk_drewN ?_ _ | refine blk_drew ?_ | refine blk_alloc ?_ _)); exact BK152.out⟩, ⟨by repeat (first | (with_reducible first | exact HB.out | apply below_alloc | apply pw_below_drewN | apply below_drew1 | refine below_set ?_ GE151.out | refine below_set ?_ GE152.out) | exact HB.out)⟩⟩
                  · replace c22 := Bool.eq_false_iff.mpr c22
                    subst c22
                    have H1 : (some false) = some r := by rw [if_neg (show ¬ (false = true) by decide)] at H; exact H
                    clear H
                    have H := H1
                    clear H1
                    obtain rfl := Option.some.inj H
                    have hnb27 := NB151_152.out
                    have hnc27 := NB152_151.out
                    have hcz28_0 : wr.cell? ⟨gb151, 0, none⟩ = some (.slice A0_0 l0_0.length c0_0) := (blk_cell BK151.out 0).trans rfl
                    have hcz28_1 : wr.cell? ⟨gb151, 1, none⟩ = some (.slice A0_1 l0_1.length c0_1) := (blk_cell BK151.out 1).trans rfl
                    have hfz28_0 := blk_frozen BK151.out 0
                    have hfz28_1 := blk_frozen BK151.out 1
                    try go_wp2
                    have n0_ := Aside0.mk (blk_drew BK151.out)
                    have n1_ := Aside0.mk (blk_drew BK152.out)
                    have n2_ := Aside0.mk (below_drew1 HB.out)
                    clear BK151
                    clear BK152
                    clear HB
                    have BK151 := n0_
                    have BK152 := n1_
                    have HB := n2_
                    clear n0_ n1_ n2_
                    have p153 : 0 ≤ (x5_2 : Int) := of_decide_eq_true (by first | (with_reducible assumption) | assumption)
                    have q153 : x5_2 < (l0_1.length : Int) := of_decide_eq_true (by first | (with_reducible assumption) | assumption)
                    obtain ⟨ad153, A153_1, c153_1, e153, hx153_0, hx153_1, hx153_2, hx153_3, hl153_1, hi153_1⟩ := at_T59 HR0_1.out x5_2 p153 q153
                    have hw153_3 := hx153_3
                    have hw153_2 := hx153_2
                    have hw153_1 := hx153_1
                    have hw153_0 := hx153_0
                    cases e153
                    replace hx153_0 := (HB.out.cell (World.block_lt_of_cell? w _ hx153_0)).trans hx153_0
                    replace hx153_1 := (HB.out.cell (World.block_lt_of_cell? w _ hx153_1)).trans hx153_1
                    replace hx153_2 := (HB.out.cell (World.block_lt_of_cell? w _ hx153_2)).trans hx153_2
                    replace hx153_3 := (HB.out.cell (World.block_lt_of_cell? w _ hx153_3)).trans hx153_3
                    have HR153_1 := Aside0.mk hi153_1
                    have HC153_1 := Aside0.mk hl153_1
                    clear hi153_1 hl153_1
                    replace p153 := eq_true p153
                    replace q153 := eq_true q153
                    have p154 : 0 ≤ (x5_2 : Int) := of_decide_eq_true (by first | (with_reducible assumption) | assumption)
                    have q154 : x5_2 < (l1_1.length : Int) := of_decide_eq_true (by first | (with_reducible assumption) | assumption)
                    obtain ⟨ad154, A154_1, c154_1, e154, hx154_0, hx154_1, hx154_2, hx154_3, hl154_1, hi154_1⟩ := at_T59 HR1_1.out x5_2 p154 q154
                    have hw154_3 := hx154_3
                    have hw154_2 := hx154_2
                    have hw154_1 := hx154_1
                    have hw154_0 := hx154_0
                    cases e154
                    replace hx154_0 := (HB.out.cell (World.block_lt_of_cell? w _ hx154_0)).trans hx154_0
                    replace hx154_1 := (HB.out.cell (World.block_lt_of_cell? w _ hx154_1)).trans hx154_1
                    replace hx154_2 := (HB.out.cell (World.block_lt_of_cell? w _ hx154_2)).trans hx154_2
                    replace hx154_3 := (HB.out.cell (World.block_lt_of_cell? w _ hx154_3)).trans hx154_3
                    have HR154_1 := Aside0.mk hi154_1
                    have HC154_1 := Aside0.mk hl154_1
                    clear hi154_1 hl154_1
                    replace p154 := eq_true p154
                    replace q154 := eq_true q154
                    refine start_ (n := 12) (S := fun w' => w'.cell? ⟨gb151, 0, none⟩ = some (.slice A0_0 l0_0.length c0_0) ∧ w'.cell? ⟨gb151, 1, none⟩ = some (.slice (some ad153) l0_1.length c0_1) ∧ w'.cell? ⟨gb152, 0, none⟩ = some (.slice A1_0 l1_0.length c1_0) ∧ w'.cell? ⟨gb152, 1, none⟩ = some (.slice (some ad154) l1_1.length c1_1) ∧ w'.cell? (ad153.add ((x5_2).toNat * 4)) = some (.int .i64 ((rd_T59 l0_1 x5_2).f0)) ∧ w'.cell? ⟨(ad153.add ((x5_2).toNat * 4)).block, (ad153.add ((x5_2).toNat * 4)).off + 1, none⟩ = some (.slice A153_1 ((rd_T59 l0_1 x5_2).f1).length c153_1) ∧ w'.cell? ⟨(ad153.add ((x5_2).toNat * 4)).block, (ad153.add ((x5_2).toNat * 4)).off + 2, none⟩ = some (.int .i64 ((rd_T59 l0_1 x5_2).f2)) ∧ w'.cell? ⟨(ad153.add ((x5_2).toNat * 4)).block, (ad153.add ((x5_2).toNat * 4)).off + 3, none⟩ = some (.bool ((rd_T59 l0_1 x5_2).f3)) ∧ w'.cell? (ad154.add ((x5_2).toNat * 4)) = some (.int .i64 ((rd_T59 l1_1 x5_2).f0)) ∧ w'.cell? ⟨(ad154.add ((x5_2).toNat * 4)).block, (ad154.add ((x5_2).toNat * 4)).off + 1, none⟩ = some (.slice A154_1 ((rd_T59 l1_1 x5_2).f1).length c154_1) ∧ w'.cell? ⟨(ad154.add ((x5_2).toNat * 4)).block, (ad154.add ((x5_2).toNat * 4)).off + 2, none⟩ = some (.int .i64 ((rd_T59 l1_1 x5_2).f2)) ∧ w'.cell? ⟨(ad154.add ((x5_2).toNat * 4)).block, (ad154.add ((x5_2).toNat * 4)).off + 3, none⟩ = some (.bool ((rd_T59 l1_1 x5_2).f3))) (ds := []) #[false, false, false, false, false, false, false, false, false, false, false, false] (by kernel_rfl) rfl rfl ⟨(blk_cell BK151.out 0).trans rfl, (blk_cell BK151.out 1).trans rfl, (blk_cell BK152.out 0).trans rfl, (blk_cell BK152.out 1).trans rfl, ((HB.out.cell (World.block_lt_of_cell? w _ hw153_0)).trans hw153_0), ((HB.out.cell (World.block_lt_of_cell? w _ hw153_1)).trans hw153_1), ((HB.out.cell (World.block_lt_of_cell? w _ hw153_2)).trans hw153_2), ((HB.out.cell (World.block_lt_of_cell? w _ hw153_3)).trans hw153_3), ((HB.out.cell (World.block_lt_of_cell? w _ hw154_0)).trans hw154_0), ((HB.out.cell (World.block_lt_of_cell? w _ hw154_1)).trans hw154_1), ((HB.out.cell (World.block_lt_of_cell? w _ hw154_2)).trans hw154_2), ((HB.out.cell (World.block_lt_of_cell? w _ hw154_3)).trans hw154_3)⟩ (fun hHeld => ?_); refine with_tabW avocetref09_Same.tab6 avocetref09_Same.bits6 (fun HT_ HW_ => ?_)
                    generalize wr.drew = w29 at BK151 BK152 HB HR153_1 HR154_1 hx153_0 hx153_1 hx153_2 hx153_3 hx154_0 hx154_1 hx154_2 hx154_3 hHeld ⊢
                    refine pure_ (i := 0) (N := some 29) (v := ?_) (a' := ?_) #[true, false, false, false, false, false, false, false, false, false, false, false] rfl rfl (any_of HT_.out (by kernel_rfl)) (fun _ _ _ h => h) (Or.inl ⟨by rfl, ?_⟩) ?_ ?_
                    rotate_left
                    · intro w'
                      go_simp
                      with_reducible rfl
                    rotate_left
                    · simp only [Act.put, List.setIfInBounds_toArray, List.set_cons_zero, List.set_cons_succ, i64_w, i32_w]
                      rfl
                    refine pure_ (i := 2) (N := some 31) (v := ?_) (a' := ?_) #[true, false, true, false, false, false, false, false, false, false, false, false] rfl rfl (any_of HT_.out (by kernel_rfl)) (fun _ _ _ h => h) (Or.inl ⟨by rfl, ?_⟩) ?_ ?_
                    rotate_left
                    · intro w'
                      go_simp
                      with_reducible rfl
                    rotate_left
                    · simp only [Act.put, List.setIfInBounds_toArray, List.set_cons_zero, List.set_cons_succ, i64_w, i32_w]
                      rfl
                    refine pure_ (i := 5) (N := some 34) (v := ?_) (a' := ?_) #[true, false, true, false, false, true, false, false, false, false, false, false] rfl rfl (any_of HT_.out (by kernel_rfl)) (fun _ _ _ h => h) (Or.inl ⟨by rfl, ?_⟩) ?_ ?_
                    rotate_left
                    · intro w'
                      go_simp
                      with_reducible rfl
                    rotate_left
                    · simp only [Act.put, List.setIfInBounds_toArray, List.set_cons_zero, List.set_cons_succ, i64_w, i32_w]
                      rfl
                    refine pure_ (i := 7) (N := some 36) (v := ?_) (a' := ?_) #[true, false, true, false, false, true, false, true, false, false, false, false] rfl rfl (any_of HT_.out (by kernel_rfl)) (fun _ _ _ h => h) (Or.inl ⟨by rfl, ?_⟩) ?_ ?_
                    rotate_left
                    · intro w'
                      go_simp
                      with_reducible rfl
                    rotate_left
                    · simp only [Act.put, List.setIfInBounds_toArray, List.set_cons_zero, List.set_cons_succ, i64_w, i32_w]
                      rfl
                    refine take_ (i := 1) (N := some 30) (v := ?_) (a' := ?_) #[true, true, true, false, false, true, false, true, false, false, false, false] rfl rfl (take_ofW HT_.out HW_.out (by kernel_rfl)) (fun _ _ _ h => h) (Or.inl ⟨by rfl, ?_⟩) hHeld ?_ ?_
                    rotate_left
                    · rintro w' ⟨s0, s1, s2, s3, s4, s5, s6, s7, s8, s9, s10, s11⟩
                      go_simp
                      with_reducible rfl
                    rotate_left
                    · simp only [Act.put, List.setIfInBounds_toArray, List.set_cons_zero, List.set_cons_succ, i64_w, i32_w]
                      rfl
                    refine pure_ (i := 3) (N := some 32) (v := ?_) (a' := ?_) #[true, true, true, true, false, true, false, true, false, false, false, false] rfl rfl (any_of HT_.out (by kernel_rfl)) (fun _ _ _ h => h) (Or.inl ⟨by rfl, ?_⟩) ?_ ?_
                    rotate_left
                    · intro w'
                      go_simp
                      with_reducible rfl
                    rotate_left
                    · simp only [Act.put, List.setIfInBounds_toArray, List.set_cons_zero, List.set_cons_succ, i64_w, i32_w]
                      rfl
                    refine take_ (i := 4) (N := some 33) (v := ?_) (a' := ?_) #[true, true, true, true, true, true, false, true, false, false, false, false] rfl rfl (take_ofW HT_.out HW_.out (by kernel_rfl)) (fun _ _ _ h => h) (Or.inl ⟨by rfl, ?_⟩) hHeld ?_ ?_
                    rotate_left
                    · rintro w' ⟨s0, s1, s2, s3, s4, s5, s6, s7, s8, s9, s10, s11⟩
                      go_simp
                      with_reducible rfl
                    rotate_left
                    · simp only [Act.put, List.setIfInBounds_toArray, List.set_cons_zero, List.set_cons_succ, i64_w, i32_w]
                      rfl
                    refine take_ (i := 6) (N := some 35) (v := ?_) (a' := ?_) #[true, true, true, true, true, true, true, true, false, false, false, false] rfl rfl (take_ofW HT_.out HW_.out (by kernel_rfl)) (fun _ _ _ h => h) (Or.inl ⟨by rfl, ?_⟩) hHeld ?_ ?_
                    rotate_left
                    · rintro w' ⟨s0, s1, s2, s3, s4, s5, s6, s7, s8, s9, s10, s11⟩
                      go_simp
                      with_reducible rfl
                    rotate_left
                    · simp only [Act.put, List.setIfInBounds_toArray, List.set_cons_zero, List.set_cons_succ, i64_w, i32_w]
                      rfl
                    refine pure_ (i := 8) (N := some 37) (v := ?_) (a' := ?_) #[true, true, true, true, true, true, true, true, true, false, false, false] rfl rfl (any_of HT_.out (by kernel_rfl)) (fun _ _ _ h => h) (Or.inl ⟨by rfl, ?_⟩) ?_ ?_
                    rotate_left
                    · intro w'
                      go_simp
                      with_reducible rfl
                    rotate_left
                    · simp only [Act.put, List.setIfInBounds_toArray, List.set_cons_zero, List.set_cons_succ, i64_w, i32_w]
                      rfl
                    refine take_ (i := 9) (N := some 38) (v := ?_) (a' := ?_) #[true, true, true, true, true, true, true, true, true, true, false, false] rfl rfl (take_ofW HT_.out HW_.out (by kernel_rfl)) (fun _ _ _ h => h) (Or.inl ⟨by rfl, ?_⟩) hHeld ?_ ?_
                    rotate_left
                    · rintro w' ⟨s0, s1, s2, s3, s4, s5, s6, s7, s8, s9, s10, s11⟩
                      go_simp
                      with_reducible rfl
                    rotate_left
                    · simp only [Act.put, List.setIfInBounds_toArray, List.set_cons_zero, List.set_cons_succ, i64_w, i32_w]
                      rfl
                    refine one_ (i := 10) (N := some 39) #[true, true, true, true, true, true, true, true, true, true, true, false] rfl rfl (one_of HT_.out (by kernel_rfl)) (by decide) (fun K hK => ?_)
                    refine goes_ Try.func32 (by kernel_rfl) rfl #[.agg #[.int .i64 ((rd_T59 l0_1 x5_2).f0), .slice A153_1 ((rd_T59 l0_1 x5_2).f1).length c153_1, .int .i64 ((rd_T59 l0_1 x5_2).f2), .bool ((rd_T59 l0_1 x5_2).f3)], .agg #[.int .i64 ((rd_T59 l1_1 x5_2).f0), .slice A154_1 ((rd_T59 l1_1 x5_2).f1).length c154_1, .int .i64 ((rd_T59 l1_1 x5_2).f2), .bool ((rd_T59 l1_1 x5_2).f3)]] (by rfl) rfl rfl (by (try simp only [List.map_toArray, List.map_cons, List.map_nil]); first | done | rfl | (simp only [List.length_drop, List.length_take]; rfl)) ?_
                    with_reducible refine (avocetref09_SameCtrl.calls ((rd_T59 l0_1 x5_2).f0) _ _ ((rd_T59 l0_1 x5_2).f1) ((rd_T59 l0_1 x5_2).f2) ((rd_T59 l0_1 x5_2).f3) ((rd_T59 l1_1 x5_2).f0) _ _ ((rd_T59 l1_1 x5_2).f1) ((rd_T59 l1_1 x5_2).f2) ((rd_T59 l1_1 x5_2).f3) false _ ?side1 ?side2 ?side3 ?side4 A21.out).mono ?_
                    (case side1 => repeat (first | exact (Kd.C_below HR153_1.out HB.out) | (with_reducible refine Kd.C_alloc ?_ _) | (with_reducible refine Kd.C_drewN ?_ _) | (with_reducible refine Kd.C_drew ?_)))
                    (case side2 => exact HC153_1.out)
                    (case side3 => repeat (first | exact (Kd.C_below HR154_1.out HB.out) | (with_reducible refine Kd.C_alloc ?_ _) | (with_reducible refine Kd.C_drewN ?_ _) | (with_reducible refine Kd.C_drew ?_)))
                    (case side4 => exact HC154_1.out)
                    rintro e w30 ⟨rfl, hb⟩
                    refine ⟨_, rfl, ?_⟩
                    have n0_ := Aside0.mk (blk_below (g := gb151) (o := .cells #[.slice A0_0 l0_0.length c0_0, .slice (some ad153) l0_1.length c0_1] 39 (0, 0)) (by (with_reducible repeat (first | refine blk_drewN ?_ _ | refine blk_drew ?_ | refine blk_alloc ?_ _)); exact BK151.out) hb)
                    have n1_ := Aside0.mk (blk_below (g := gb152) (o := .cells #[.slice A1_0 l1_0.length c1_0, .slice (some ad154) l1_1.length c1_1] 39 (0, 0)) (by (with_reducible repeat (first | refine blk_drewN ?_ _ | refine blk_drew ?_ | refine blk_alloc ?_ _)); exact BK152.out) hb)
                    have n2_ := Aside0.mk (below_step (by repeat (first | (with_reducible first | exact HB.out | apply below_alloc | apply pw_below_drewN | apply below_drew1 | refine below_set ?_ GE151.out | refine below_set ?_ GE152.out) | exact HB.out)) hb)
                    clear BK151
                    clear BK152
                    clear HB
                    have BK151 := n0_
                    have BK152 := n1_
                    have HB := n2_
                    clear n0_ n1_ n2_
                    (try clear hb)
                    (try clear hb2)
                    (try clear hk)
                    (try clear hi)
                    refine hK.out _ _ ⟨(blk_cell BK151.out 0).trans rfl, (blk_cell BK151.out 1).trans rfl, (blk_cell BK152.out 0).trans rfl, (blk_cell BK152.out 1).trans rfl, ((HB.out.cell (World.block_lt_of_cell? w _ hw153_0)).trans hw153_0), ((HB.out.cell (World.block_lt_of_cell? w _ hw153_1)).trans hw153_1), ((HB.out.cell (World.block_lt_of_cell? w _ hw153_2)).trans hw153_2), ((HB.out.cell (World.block_lt_of_cell? w _ hw153_3)).trans hw153_3), ((HB.out.cell (World.block_lt_of_cell? w _ hw154_0)).trans hw154_0), ((HB.out.cell (World.block_lt_of_cell? w _ hw154_1)).trans hw154_1), ((HB.out.cell (World.block_lt_of_cell? w _ hw154_2)).trans hw154_2), ((HB.out.cell (World.block_lt_of_cell? w _ hw154_3)).trans hw154_3)⟩ (fun hHeld => ?_)
                    clear hK K
                    refine norm_ (a' := ?_) ?_ ?_
                    rotate_left
                    · show Act.put _ (some 39) _ = _
                      simp only [Act.put, List.setIfInBounds_toArray, List.set_cons_zero, List.set_cons_succ, i64_w, i32_w]
                      rfl
                    refine pure_ (i := 11) (N := some 40) (v := ?_) (a' := ?_) #[true, true, true, true, true, true, true, true, true, true, true, true] rfl rfl (any_of HT_.out (by kernel_rfl)) (fun _ _ _ h => h) (Or.inl ⟨by rfl, ?_⟩) ?_ ?_
                    rotate_left
                    · intro w'
                      go_simp
                      with_reducible rfl
                    rotate_left
                    · simp only [Act.put, List.setIfInBounds_toArray, List.set_cons_zero, List.set_cons_succ, i64_w, i32_w]
                      rfl
                    refine done_ (done_of HT_.out (by kernel_rfl)) ?_
                    try go_wp2
                    go_ret
                    exact ⟨by first | rfl | (simp [errW_none, errW_some] <;> rfl) | (simp [*, errW_none, errW_some] <;> rfl), by repeat (first | (with_reducible first | exact HB.out | apply below_alloc | apply pw_below_drewN | apply below_drew1 | refine below_set ?_ GE151.out | refine below_set ?_ GE152.out) | exact HB.out)⟩
                · rw [if_neg c20] at H
                  exact absurd H (by simp)
              · rw [if_neg c19] at H
                exact absurd H (by simp)
            · rw [if_neg c18] at H
              have c18b0 : decide (x5_2 < (l0_1.length : Int)) = false := decide_eq_false c18
              clear c18
              obtain rfl := Option.some.inj H
              have hnb31 := NB151_152.out
              have hnc31 := NB152_151.out
              have hcz32_0 : wr.cell? ⟨gb151, 0, none⟩ = some (.slice A0_0 l0_0.length c0_0) := (blk_cell BK151.out 0).trans rfl
              have hcz32_1 : wr.cell? ⟨gb151, 1, none⟩ = some (.slice A0_1 l0_1.length c0_1) := (blk_cell BK151.out 1).trans rfl
              have hfz32_0 := blk_frozen BK151.out 0
              have hfz32_1 := blk_frozen BK151.out 1
              go_wp2
              go_ret
              exact ⟨by first | rfl | (simp [errW_none, errW_some] <;> rfl) | (simp [*, errW_none, errW_some] <;> rfl), by repeat (first | (with_reducible first | exact HB.out | apply below_alloc | apply pw_below_drewN | apply below_drew1 | refine below_set ?_ GE151.out | refine below_set ?_ GE152.out) | exact HB.out)⟩

/-! ### avocetlaw09_ctrl: function 33 -/
def avocetlaw09_ctrl.f (a0_0 : Int) (l0_1 : List Int) (a0_2 : Int) (a0_3 : Bool) : Option (Int × List Int × Int × Bool) := some (a0_0, l0_1, a0_2, a0_3)
set_option maxHeartbeats 8000000 in
set_option maxRecDepth 100000 in
theorem avocetlaw09_ctrl.calls (a0_0 : Int) (P0_1_ : Nat → Prop) (u9000_ : Value) (l0_1 : List Int) (a0_2 : Int) (a0_3 : Bool) (r1 : Int) (r2 : List Int) (r3 : Int) (r4 : Bool) (w0 w : World) (hB : Below w0.heap.size w0 w) (ho0_1 : Kd.R (Kd.int .u8) 5 w w0.heap.size P0_1_ u9000_ l0_1) (h : avocetlaw09_ctrl.f a0_0 l0_1 a0_2 a0_3 = some (r1, r2, r3, r4)) :
    Calls Try.prog 33 #[.agg #[.int .i64 a0_0, u9000_, .int .i64 a0_2, .bool a0_3]] w fun e w' => ∃ v1_ : Value, e = .returned (.agg #[.int .i64 r1, v1_, .int .i64 r3, .bool r4]) ∧ Kd.R (Kd.int .u8) 5 w' w0.heap.size (fun k_ => (P0_1_ k_ ∨ w.heap.size ≤ k_)) v1_ r2 ∧ Below w0.heap.size w0 w' ∧ Kept w w' (fun k_ => P0_1_ k_) := by
  have hu31 := Try.underlying31
  have hu59 := Try.underlying59
  have HO0_1 := Aside0.mk (show Kd.R (Kd.int .u8) 5 w w0.heap.size (fun k_ => (P0_1_ k_ ∨ w.heap.size ≤ k_)) u9000_ l0_1 from Kd.R_mono ho0_1 (fun k_ hk => (.inl hk)))
  have HK := Aside0.mk (Kept.refl w (fun k_ => P0_1_ k_))
  have HW0 := Aside0.mk hB.size
  have HB := Aside0.mk hB
  clear hB
  have H : (some (a0_0, l0_1, a0_2, a0_3)) = some (r1, r2, r3, r4) := h
  clear h
  simp only [Option.some.injEq, Prod.mk.injEq] at H
  obtain ⟨rfl, rfl, rfl, rfl⟩ := H
  obtain ⟨Ao2, co2, eo2⟩ := Kd.R_slice HO0_1.out
  subst eo2
  go_enter Try.func33, Try.ntmps33
  go_wp2_with (first | ((with_reducible refine gate_dst (N := 1) rfl ?_); refine box_event ?hg (N := 1) ?hd (cs := #[.int .i64 a0_0, .slice Ao2 l0_1.length co2, .int .i64 a0_2, .bool a0_3]) (t := 31) ?hr ?_; (case hd => rfl); (case hg => rfl); (case hr => first | (go_simp; done) | (go_simp; rfl)); intro gb156 hg w3 hbox hb; have n0_ := Aside0.mk (Kd.R_below (by (with_reducible repeat (first | apply Kd.R_alloc | apply Kd.R_drewN | apply Kd.R_drew)); exact HO0_1.out) hb); have n1_ := Aside0.mk (Kept.below (S := (fun k_ => P0_1_ k_)) (by repeat (first | (with_reducible first | exact HK.out | apply Kept.alloc | apply Kept.drewN | apply Kept.drew) | exact HK.out)) hb); have n2_ := Aside0.mk (below_step (by repeat (first | (with_reducible first | exact HB.out | apply below_alloc | apply pw_below_drewN | apply below_drew1) | exact HB.out)) hb); have n3_ := Aside0.mk (hbox); have n4_ := Aside0.mk ((by rw [hg]; exact (by first | exact HK.out.1 | exact (show Kept w _ (fun k_ => P0_1_ k_) from by repeat (first | (with_reducible first | exact HK.out | apply Kept.alloc | apply Kept.drewN | apply Kept.drew) | exact HK.out)).1) : w.heap.size ≤ gb156)); have n5_ := Aside0.mk ((by rw [hg]; exact (below_size (by repeat (first | (with_reducible first | exact HB.out | apply below_alloc | apply pw_below_drewN | apply below_drew1) | exact HB.out))) : w0.heap.size ≤ gb156)); clear HO0_1; clear HK; clear HB; have HO0_1 := n0_; have HK := n1_; have HB := n2_; have BK156 := n3_; have GW156 := n4_; have GE156 := n5_; clear n0_ n1_ n2_ n3_ n4_ n5_; clear hb hbox hg) | ((with_reducible refine gate_dst (N := 2) rfl ?_); refine box_event ?hg (N := 2) ?hd (cs := #[.int .i64 0, .slice none 0 0, .int .i64 0, .bool false]) (t := 59) ?hr ?_; (case hd => rfl); (case hg => rfl); (case hr => first | (go_simp; done) | (go_simp; rfl)); intro gb157 hg w4 hbox hb; have n0_ := Aside0.mk (Kd.R_below (by (with_reducible repeat (first | apply Kd.R_alloc | apply Kd.R_drewN | apply Kd.R_drew)); exact HO0_1.out) hb); have n1_ := Aside0.mk (blk_below (g := gb156) (o := .cells #[.int .i64 a0_0, .slice Ao2 l0_1.length co2, .int .i64 a0_2, .bool a0_3] 31 (0, 0)) (by (with_reducible repeat (first | refine blk_drewN ?_ _ | refine blk_drew ?_ | refine blk_alloc ?_ _)); exact BK156.out) hb); have n2_ := Aside0.mk (Kept.below (S := (fun k_ => P0_1_ k_)) (by repeat (first | (with_reducible first | exact HK.out | apply Kept.alloc | apply Kept.drewN | apply Kept.drew | refine Kept.setCell ?_ (.inr GW156.out) _) | exact HK.out)) hb); have n3_ := Aside0.mk (below_step (by repeat (first | (with_reducible first | exact HB.out | apply below_alloc | apply pw_below_drewN | apply below_drew1 | refine below_set ?_ GE156.out) | exact HB.out)) hb); have n4_ := Aside0.mk (hbox); have n5_ := Aside0.mk ((by rw [hg]; exact (by first | exact HK.out.1 | exact (show Kept w _ (fun k_ => P0_1_ k_) from by repeat (first | (with_reducible first | exact HK.out | apply Kept.alloc | apply Kept.drewN | apply Kept.drew | refine Kept.setCell ?_ (.inr GW156.out) _) | exact HK.out)).1) : w.heap.size ≤ gb157)); have n6_ := Aside0.mk ((by rw [hg]; exact (below_size (by repeat (first | (with_reducible first | exact HB.out | apply below_alloc | apply pw_below_drewN | apply below_drew1 | refine below_set ?_ GE156.out) | exact HB.out))) : w0.heap.size ≤ gb157)); have n7_ := Aside0.mk ((by rw [hg]; exact Nat.ne_of_lt (blk_lt (g := gb156) (o := .cells #[.int .i64 a0_0, .slice Ao2 l0_1.length co2, .int .i64 a0_2, .bool a0_3] 31 (0, 0)) (by (with_reducible repeat (first | refine blk_drewN ?_ _ | refine blk_drew ?_ | refine blk_alloc ?_ _)); exact BK156.out)) : gb156 ≠ gb157)); have n8_ := Aside0.mk ((by rw [hg]; exact Nat.ne_of_gt (blk_lt (g := gb156) (o := .cells #[.int .i64 a0_0, .slice Ao2 l0_1.length co2, .int .i64 a0_2, .bool a0_3] 31 (0, 0)) (by (with_reducible repeat (first | refine blk_drewN ?_ _ | refine blk_drew ?_ | refine blk_alloc ?_ _)); exact BK156.out)) : gb157 ≠ gb156)); clear HO0_1; clear BK156; clear HK; clear HB; have HO0_1 := n0_; have BK156 := n1_; have HK := n2_; have HB := n3_; have BK157 := n4_; have GW157 := n5_; have GE157 := n6_; have NB156_157 := n7_; have NB157_156 := n8_; clear n0_ n1_ n2_ n3_ n4_ n5_ n6_ n7_ n8_; clear hb hbox hg; have hnb5 := NB156_157.out; have hnc5 := NB157_156.out; have hcz6_0 : w4.cell? ⟨gb156, 0, none⟩ = some (.int .i64 a0_0) := (blk_cell BK156.out 0).trans rfl; have hcz6_1 : w4.cell? ⟨gb156, 1, none⟩ = some (.slice Ao2 l0_1.length co2) := (blk_cell BK156.out 1).trans rfl; have hcz6_2 : w4.cell? ⟨gb156, 2, none⟩ = some (.int .i64 a0_2) := (blk_cell BK156.out 2).trans rfl; have hcz6_3 : w4.cell? ⟨gb156, 3, none⟩ = some (.bool a0_3) := (blk_cell BK156.out 3).trans rfl; have hfz6_0 := blk_frozen BK156.out 0; have hfz6_1 := blk_frozen BK156.out 1; have hfz6_2 := blk_frozen BK156.out 2; have hfz6_3 := blk_frozen BK156.out 3; have hcz7_0 : w4.cell? ⟨gb157, 0, none⟩ = some (.int .i64 0) := (blk_cell BK157.out 0).trans rfl; have hcz7_1 : w4.cell? ⟨gb157, 1, none⟩ = some (.slice none 0 0) := (blk_cell BK157.out 1).trans rfl; have hcz7_2 : w4.cell? ⟨gb157, 2, none⟩ = some (.int .i64 0) := (blk_cell BK157.out 2).trans rfl; have hcz7_3 : w4.cell? ⟨gb157, 3, none⟩ = some (.bool false) := (blk_cell BK157.out 3).trans rfl; have hfz7_0 := blk_frozen BK157.out 0; have hfz7_1 := blk_frozen BK157.out 1; have hfz7_2 := blk_frozen BK157.out 2; have hfz7_3 := blk_frozen BK157.out 3))
  refine bodyPost_ret (results_cell_row rfl _ _ gb157 59 #[.int .i64 a0_0, .slice Ao2 l0_1.length co2, .int .i64 a0_2, .bool a0_3] (0, 0) _ rfl (by (with_reducible repeat (first | refine blk_drewN ?_ _ | refine blk_drew ?_ | refine blk_alloc ?_ _)); refine blk_put (cs := #[.int .i64 a0_0, .slice Ao2 l0_1.length co2, .int .i64 a0_2, .bool false]) ?_ 3 _ rfl; (with_reducible repeat (first | refine blk_drewN ?_ _ | refine blk_drew ?_ | refine blk_alloc ?_ _)); refine blk_put (cs := #[.int .i64 a0_0, .slice Ao2 l0_1.length co2, .int .i64 0, .bool false]) ?_ 2 _ rfl; (with_reducible repeat (first | refine blk_drewN ?_ _ | refine blk_drew ?_ | refine blk_alloc ?_ _)); refine blk_put (cs := #[.int .i64 a0_0, .slice none 0 0, .int .i64 0, .bool false]) ?_ 1 _ rfl; (with_reducible repeat (first | refine blk_drewN ?_ _ | refine blk_drew ?_ | refine blk_alloc ?_ _)); refine blk_put (cs := #[.int .i64 0, .slice none 0 0, .int .i64 0, .bool false]) ?_ 0 _ rfl; (with_reducible repeat (first | refine blk_drewN ?_ _ | refine blk_drew ?_ | refine blk_alloc ?_ _)); exact BK157.out) Try.underlying59 rfl (by kernel_rfl)) rfl ?_
  exact ⟨_, by first | rfl | (simp [errW_none, errW_some] <;> rfl) | (simp [*, errW_none, errW_some] <;> rfl), by (with_reducible repeat (first | apply Kd.R_alloc | apply Kd.R_drewN | apply Kd.R_drew)); exact Kd.R_mono (Kd.R_far (p := ⟨gb157, 3, none⟩) (Kd.R_far (p := ⟨gb157, 2, none⟩) (Kd.R_far (p := ⟨gb157, 1, none⟩) (Kd.R_far (p := ⟨gb157, 0, none⟩) (Kd.R_types HO0_1.out BK157.out (by decide)) (fun _ hk => hk.2) (.int .i64 a0_0)) (fun _ hk => hk.2) (.slice Ao2 l0_1.length co2)) (fun _ hk => hk.2) (.int .i64 a0_2)) (fun _ hk => hk.2) (.bool a0_3)) (fun _ hk => hk.1), by repeat (first | (with_reducible first | exact HB.out | apply below_alloc | apply pw_below_drewN | apply below_drew1 | refine below_set ?_ GE156.out | refine below_set ?_ GE157.out) | exact HB.out), by repeat (first | (with_reducible first | exact HK.out | apply Kept.alloc | apply Kept.drewN | apply Kept.drew | refine Kept.setCell ?_ (.inr GW156.out) _ | refine Kept.setCell ?_ (.inr GW157.out) _) | exact HK.out)⟩

-- NOT PRINTED: function 16 (avocetlaw09_theirs)

-- NOT PRINTED: function 4 (avocetlaw09_StackBack)

end Go.Proofs.Ytagblobimoedcaa.G
