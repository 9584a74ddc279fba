-- Made by gprint.py (mine) over the kit's print.py, out of the translation; parts of it typed by hand.
import Derived.Test.YtbbgkelcdooabaaG0
namespace Go.Proofs.Ytbbgkelcdooabaa.G
open Go.RowKit Go.Proofs.YtbbgkelcdooabaaW.PrintWords Go.Proofs.YtbbgkelcdooabaaW.PrintLast Go.Proofs.YtbbgkelcdooabaaW.PrintMore
attribute [local go_sem] max2_int min2_int max_two min_two max_three min_three max_four min_four   -- for this text's walks alone
set_option linter.unusedVariables false
set_option linter.unusedSimpArgs false

/-! ### avocetlaw17_ours: function 30 -/
def avocetlaw17_ours.l0 : Nat → List (S61) → List (S58) → Int → Option ((List (S58)))
  | 0, _, _, _ => none
  | k + 1, x0, x3, x4 => if x4 < (x0.length : Int) then (if 0 ≤ x4 then (if x3.length < 2932031007402 then (avocetlaw17_ours.l0 k x0 (x3 ++ [(⟨(rd_T61 x0 x4).f0, (rd_T61 x0 x4).f1, (rd_T61 x0 x4).f2, (rd_T61 x0 x4).f3⟩ : S58)]) (wrap64 (x4 + 1))) else (none)) else (none)) else (some x3)
def avocetlaw17_ours.f (k : Nat) (l0 : List (S61)) : Option ((List (S58))) := avocetlaw17_ours.l0 k l0 ([] : List (S58)) 0
theorem avocetlaw17_ours.mono_l : ∀ k, (∀ y0 y1 y2, LeO (avocetlaw17_ours.l0 k y0 y1 y2) (avocetlaw17_ours.l0 (k + 1) y0 y1 y2))
  | 0 => fun _ _ _ r h => by simp [avocetlaw17_ours.l0] at h
  | k + 1 => by
    have ih0 := avocetlaw17_ours.mono_l k
    · intro y0 y1 y2
      unfold avocetlaw17_ours.l0
      repeat' first
      | (with_reducible exact ih0 _ _ _)
      | (with_reducible exact LeO.refl _)
      | (with_reducible exact LeO.none _)
      | (with_reducible refine LeO.ite ?_ ?_)
      | (with_reducible refine LeO.bind ?_ (fun _ => ?_))
      | exact ih0 _ _ _
      | exact LeO.none _
      | refine LeO.ite ?_ ?_
      | refine LeO.bind ?_ (fun _ => ?_)
theorem avocetlaw17_ours.mono : ∀ a0 k, LeO (avocetlaw17_ours.f k a0) (avocetlaw17_ours.f (k + 1) a0) := by
  intro a0 k
  have ih0 := avocetlaw17_ours.mono_l k
  unfold avocetlaw17_ours.f
  repeat' first
      | (with_reducible exact ih0 _ _ _)
      | (with_reducible exact LeO.refl _)
      | (with_reducible exact LeO.none _)
      | (with_reducible refine LeO.ite ?_ ?_)
      | (with_reducible refine LeO.bind ?_ (fun _ => ?_))
      | exact ih0 _ _ _
      | exact LeO.none _
      | refine LeO.ite ?_ ?_
      | refine LeO.bind ?_ (fun _ => ?_)
def avocetlaw17_ours.T5 : Bool × List (List Nat × List Nat) := (true, [([], []), ([], []), ([], []), ([1, 2], [1, 2]), ([3], [3]), ([4], [4]), ([], []), ([], []), ([6, 7], [6, 7]), ([8], [8]), ([9], [9]), ([], []), ([], []), ([11, 12], [11, 12]), ([13], [13]), ([14], [14]), ([], []), ([], []), ([16, 17], [16, 17]), ([18], [18]), ([19], [19]), ([5, 10, 15, 20], [5, 10, 15, 20]), ([21], [21]), ([0, 22], [0, 22]), ([23, 23, 0, 1, 2, 3, 4, 5, 6, 7, 8, 9, 10, 11, 12, 13, 14, 15, 16, 17, 18, 19, 20, 21, 22, 23], [0, 23])])
def avocetlaw17_ours.B5 : List Nat := [0, 0, 0, 6, 14, 30, 0, 0, 192, 448, 960, 0, 0, 6144, 14336, 30720, 0, 0, 196608, 458752, 983040, 2097150, 4194302, 8388607, 16777215]
theorem avocetlaw17_ours.tab5 : rtab .any (opsOf Try.f30 5) = avocetlaw17_ours.T5 := by kernel_rfl
theorem avocetlaw17_ours.bits5 : waitsOk avocetlaw17_ours.T5.2 avocetlaw17_ours.B5 = true := by kernel_rfl
set_option maxHeartbeats 8000000 in
set_option maxRecDepth 100000 in
theorem avocetlaw17_ours.calls (k : Nat) (P0_ : Nat → Prop) (A0 : Option Addr) (c0 : Nat) (l0 : List (S61)) (r : List (S58)) (w : World) (hs0 : Kd.V k61 61 w w.heap.size (fun k_ => P0_ k_) (.slice A0 l0.length c0) l0) (h : avocetlaw17_ours.f k l0 = some r) :
    Calls Try.prog 30 #[.slice A0 l0.length c0] w fun e w' => ∃ v0_ : Value, e = .returned (v0_) ∧ Kd.N k58 58 w' w.heap.size (fun k_ => (P0_ k_ ∨ w.heap.size ≤ k_)) v0_ r ∧ Below w.heap.size w w' := by
  have hu58 := Try.underlying58
  have HO0 := Aside0.mk (show Kd.V k61 61 w w.heap.size (fun k_ => (P0_ k_ ∨ w.heap.size ≤ k_)) (.slice A0 l0.length c0) l0 from Kd.V_mono hs0 (fun k_ hk => .inl hk))
  have HB := Aside0.mk (Below.refl w.heap.size w)
  have H : (avocetlaw17_ours.l0 k l0 ([] : List (S58)) 0) = some r := h
  clear h
  have H' := Aside0.mk H
  clear H
  go_enter Try.func30, Try.ntmps30
  go_wp2
  go_loopg [3, 4] k (fun kq v3 v4 w' => ∃ (x3_1 : List (S58)) (x4_1 : Int), v4 = .int .i64 x4_1 ∧ Aside0 (avocetlaw17_ours.l0 kq l0 x3_1 x4_1 = some r) ∧ Aside0 (kq ≤ k) ∧ Aside0 (Kd.V k61 61 w' w.heap.size (fun k_ => (P0_ k_ ∨ w.heap.size ≤ k_) ∧ some k_ ≠ (v3 : Value).ownBlock) (.slice A0 l0.length c0) l0) ∧ Aside0 (Kd.N k58 58 w' w.heap.size (fun k_ => (P0_ k_ ∨ w.heap.size ≤ k_)) v3 x3_1) ∧ Aside0 (Below w.heap.size w w'))
  case atStart => exact ⟨(([] : List (S58))), (0), (by first | rfl | (simp; done) | (simp [*]; done)), H', ⟨Nat.le_refl _⟩, ⟨by (with_reducible repeat (first | apply Kd.V_alloc | apply Kd.V_drewN | apply Kd.V_drew)); exact Kd.V_mono HO0.out (fun _ hk => ⟨hk, (by simp [Value.ownBlock])⟩)⟩, ⟨by first | exact Kd.S_nil _ _ _ _ _ | exact Kd.N_nil _ _ _ _ _ | exact Kd.V_nil _ _ _ _ _ | exact Kd.Q_nil _ _ _ _ _ | exact Kd.R_nil _ _ _ _ _⟩, ⟨by repeat (first | (with_reducible first | exact HB.out | apply below_alloc | apply pw_below_drewN | apply below_drew1) | exact HB.out)⟩⟩
  case round =>
    clear H'
    obtain ⟨x3_1, x4_1, rfl, HA, HK1, HO_0, HO_3, HB⟩ := hrel
    cases gk with
    | zero => exact absurd HA.out (by simp [avocetlaw17_ours.l0])
    | succ k1 =>
      have H := HA.out
      clear HA
      simp only [avocetlaw17_ours.l0] at H
      by_cases c2 : x4_1 < (l0.length : Int)
      · rw [if_pos c2] at H
        have c2b0 : decide (x4_1 < (l0.length : Int)) = true := decide_eq_true c2
        clear c2
        by_cases c3 : 0 ≤ x4_1
        · rw [if_pos c3] at H
          have c3b0 : decide (0 ≤ x4_1) = true := decide_eq_true c3
          clear c3
          by_cases c4 : x3_1.length < 2932031007402
          · rw [if_pos c4] at H
            have LMc4 := Aside0.mk c4
            clear c4
            obtain ⟨y154, hy154⟩ : ∃ y_ : List (S58), y_ = (x3_1 ++ [(⟨(rd_T61 l0 x4_1).f0, (rd_T61 l0 x4_1).f1, (rd_T61 l0 x4_1).f2, (rd_T61 l0 x4_1).f3⟩ : S58)]) := ⟨_, rfl⟩
            replace H : (avocetlaw17_ours.l0 k1 l0 y154 (wrap64 (x4_1 + 1))) = some r := by first | (rw [hy154]; with_reducible exact H) | (have H2_ := (Option.bind_some _ _).symm.trans H; rw [hy154]; with_reducible exact H2_) | (have H2_ := (Option.bind_some _ _).symm.trans H; with_reducible exact H2_) | with_reducible exact H | (rw [hy154]; exact H) | exact H
            have Ny154 := Aside0.mk hy154
            clear hy154
            have H' := Aside0.mk H
            clear H
            try go_wp2
            have n0_ := Aside0.mk (Kd.V_drew HO_0.out)
            have n1_ := Aside0.mk (Kd.N_drew HO_3.out)
            have n2_ := Aside0.mk (below_drew1 HB.out)
            clear HO_0
            clear HO_3
            clear HB
            have HO_0 := n0_
            have HO_3 := n1_
            have HB := n2_
            clear n0_ n1_ n2_
            have p150 : 0 ≤ (x4_1 : Int) := of_decide_eq_true (by first | (with_reducible assumption) | assumption)
            have q150 : x4_1 < (l0.length : Int) := of_decide_eq_true (by first | (with_reducible assumption) | assumption)
            obtain ⟨ad150, A150_2, c150_2, e150, hx150_0, hx150_1, hx150_2, hx150_3, hl150_2, hi150_2⟩ := at_T61 (Kd.V_reads' HO_0.out).2.2 x4_1 p150 q150
            cases e150
            obtain ⟨ce150, hce150, hMe150, hcc150⟩ := Kd.V_get HO_0.out z61 x4_1 p150 (by first | exact q150 | exact of_decide_eq_true (by first | (with_reducible assumption) | assumption) | (have e_ := (Kd.V_reads' HO_0.out).1; omega))
            obtain ⟨ua150_2, uc150_2, rfl, ul150_2, ge150_2⟩ := k61_openF hMe150
            have hv150_2 := hcc150 2 _ rfl
            rw [add_field _ _ 2 (by omega)] at hv150_2
            replace hv150_2 := Option.some.inj (hv150_2.symm.trans hx150_2)
            injection hv150_2 with hva_ hvn_ hvc_
            rw [hva_] at ge150_2
            rw [hvc_] at ul150_2
            have HL150_2 := Aside0.mk (show Kd.V (Kd.int .u64) 35 _ w.heap.size _ _ ((rd_T61 l0 x4_1).f2) from Kd.V_mk ul150_2 ge150_2)
            clear hva_ hvn_ hvc_ ge150_2 ul150_2
            clear hcc150 hce150
            have HR150_2 := Aside0.mk hi150_2
            have HC150_2 := Aside0.mk hl150_2
            clear hi150_2 hl150_2
            replace p150 := eq_true p150
            replace q150 := eq_true q150
            have p151 : 0 ≤ (x4_1 : Int) := of_decide_eq_true (by first | (with_reducible assumption) | assumption)
            have q151 : x4_1 < (l0.length : Int) := of_decide_eq_true (by first | (with_reducible assumption) | assumption)
            obtain ⟨ad151, A151_2, c151_2, e151, hx151_0, hx151_1, hx151_2, hx151_3, hl151_2, hi151_2⟩ := at_T61 (Kd.V_reads' HO_0.out).2.2 x4_1 p151 q151
            obtain rfl : ad150 = ad151 := (by injection e151)
            obtain ⟨ce151, hce151, hMe151, hcc151⟩ := Kd.V_get HO_0.out z61 x4_1 p151 (by first | exact q151 | exact of_decide_eq_true (by first | (with_reducible assumption) | assumption) | (have e_ := (Kd.V_reads' HO_0.out).1; omega))
            obtain ⟨ua151_2, uc151_2, rfl, ul151_2, ge151_2⟩ := k61_openF hMe151
            have hv151_2 := hcc151 2 _ rfl
            rw [add_field _ _ 2 (by omega)] at hv151_2
            replace hv151_2 := Option.some.inj (hv151_2.symm.trans hx151_2)
            injection hv151_2 with hva_ hvn_ hvc_
            rw [hva_] at ge151_2
            rw [hvc_] at ul151_2
            have HL151_2 := Aside0.mk (show Kd.V (Kd.int .u64) 35 _ w.heap.size _ _ ((rd_T61 l0 x4_1).f2) from Kd.V_mk ul151_2 ge151_2)
            clear hva_ hvn_ hvc_ ge151_2 ul151_2
            clear hcc151 hce151
            have HR151_2 := Aside0.mk hi151_2
            have HC151_2 := Aside0.mk hl151_2
            clear hi151_2 hl151_2
            replace p151 := eq_true p151
            replace q151 := eq_true q151
            have ea_ := Option.some.inj (hx150_2.symm.trans hx151_2)
            injection ea_ with ea_ en_ ec_
            subst ea_
            subst ec_
            clear en_
            have p152 : 0 ≤ (x4_1 : Int) := of_decide_eq_true (by first | (with_reducible assumption) | assumption)
            have q152 : x4_1 < (l0.length : Int) := of_decide_eq_true (by first | (with_reducible assumption) | assumption)
            obtain ⟨ad152, A152_2, c152_2, e152, hx152_0, hx152_1, hx152_2, hx152_3, hl152_2, hi152_2⟩ := at_T61 (Kd.V_reads' HO_0.out).2.2 x4_1 p152 q152
            obtain rfl : ad150 = ad152 := (by injection e152)
            obtain ⟨ce152, hce152, hMe152, hcc152⟩ := Kd.V_get HO_0.out z61 x4_1 p152 (by first | exact q152 | exact of_decide_eq_true (by first | (with_reducible assumption) | assumption) | (have e_ := (Kd.V_reads' HO_0.out).1; omega))
            obtain ⟨ua152_2, uc152_2, rfl, ul152_2, ge152_2⟩ := k61_openF hMe152
            have hv152_2 := hcc152 2 _ rfl
            rw [add_field _ _ 2 (by omega)] at hv152_2
            replace hv152_2 := Option.some.inj (hv152_2.symm.trans hx152_2)
            injection hv152_2 with hva_ hvn_ hvc_
            rw [hva_] at ge152_2
            rw [hvc_] at ul152_2
            have HL152_2 := Aside0.mk (show Kd.V (Kd.int .u64) 35 _ w.heap.size _ _ ((rd_T61 l0 x4_1).f2) from Kd.V_mk ul152_2 ge152_2)
            clear hva_ hvn_ hvc_ ge152_2 ul152_2
            clear hcc152 hce152
            have HR152_2 := Aside0.mk hi152_2
            have HC152_2 := Aside0.mk hl152_2
            clear hi152_2 hl152_2
            replace p152 := eq_true p152
            replace q152 := eq_true q152
            have ea_ := Option.some.inj (hx150_2.symm.trans hx152_2)
            injection ea_ with ea_ en_ ec_
            subst ea_
            subst ec_
            clear en_
            have p153 : 0 ≤ (x4_1 : Int) := of_decide_eq_true (by first | (with_reducible assumption) | assumption)
            have q153 : x4_1 < (l0.length : Int) := of_decide_eq_true (by first | (with_reducible assumption) | assumption)
            obtain ⟨ad153, A153_2, c153_2, e153, hx153_0, hx153_1, hx153_2, hx153_3, hl153_2, hi153_2⟩ := at_T61 (Kd.V_reads' HO_0.out).2.2 x4_1 p153 q153
            obtain rfl : ad150 = ad153 := (by injection e153)
            obtain ⟨ce153, hce153, hMe153, hcc153⟩ := Kd.V_get HO_0.out z61 x4_1 p153 (by first | exact q153 | exact of_decide_eq_true (by first | (with_reducible assumption) | assumption) | (have e_ := (Kd.V_reads' HO_0.out).1; omega))
            obtain ⟨ua153_2, uc153_2, rfl, ul153_2, ge153_2⟩ := k61_openF hMe153
            have hv153_2 := hcc153 2 _ rfl
            rw [add_field _ _ 2 (by omega)] at hv153_2
            replace hv153_2 := Option.some.inj (hv153_2.symm.trans hx153_2)
            injection hv153_2 with hva_ hvn_ hvc_
            rw [hva_] at ge153_2
            rw [hvc_] at ul153_2
            have HL153_2 := Aside0.mk (show Kd.V (Kd.int .u64) 35 _ w.heap.size _ _ ((rd_T61 l0 x4_1).f2) from Kd.V_mk ul153_2 ge153_2)
            clear hva_ hvn_ hvc_ ge153_2 ul153_2
            clear hcc153 hce153
            have HR153_2 := Aside0.mk hi153_2
            have HC153_2 := Aside0.mk hl153_2
            clear hi153_2 hl153_2
            replace p153 := eq_true p153
            replace q153 := eq_true q153
            have ea_ := Option.some.inj (hx150_2.symm.trans hx153_2)
            injection ea_ with ea_ en_ ec_
            subst ea_
            subst ec_
            clear en_
            refine start_ (n := 25) (S := fun w' => w'.cell? (ad150.add ((x4_1).toNat * 4)) = some (.int .i64 ((rd_T61 l0 x4_1).f0)) ∧ w'.cell? ⟨(ad150.add ((x4_1).toNat * 4)).block, (ad150.add ((x4_1).toNat * 4)).off + 1, none⟩ = some (.int .i64 ((rd_T61 l0 x4_1).f1)) ∧ w'.cell? ⟨(ad150.add ((x4_1).toNat * 4)).block, (ad150.add ((x4_1).toNat * 4)).off + 2, none⟩ = some (.slice A150_2 ((rd_T61 l0 x4_1).f2).length c150_2) ∧ w'.cell? ⟨(ad150.add ((x4_1).toNat * 4)).block, (ad150.add ((x4_1).toNat * 4)).off + 3, none⟩ = some (.int .i64 ((rd_T61 l0 x4_1).f3)) ∧ w'.cell? (ad150.add ((x4_1).toNat * 4)) = some (.int .i64 ((rd_T61 l0 x4_1).f0)) ∧ w'.cell? ⟨(ad150.add ((x4_1).toNat * 4)).block, (ad150.add ((x4_1).toNat * 4)).off + 1, none⟩ = some (.int .i64 ((rd_T61 l0 x4_1).f1)) ∧ w'.cell? ⟨(ad150.add ((x4_1).toNat * 4)).block, (ad150.add ((x4_1).toNat * 4)).off + 2, none⟩ = some (.slice A150_2 ((rd_T61 l0 x4_1).f2).length c150_2) ∧ w'.cell? ⟨(ad150.add ((x4_1).toNat * 4)).block, (ad150.add ((x4_1).toNat * 4)).off + 3, none⟩ = some (.int .i64 ((rd_T61 l0 x4_1).f3)) ∧ w'.cell? (ad150.add ((x4_1).toNat * 4)) = some (.int .i64 ((rd_T61 l0 x4_1).f0)) ∧ w'.cell? ⟨(ad150.add ((x4_1).toNat * 4)).block, (ad150.add ((x4_1).toNat * 4)).off + 1, none⟩ = some (.int .i64 ((rd_T61 l0 x4_1).f1)) ∧ w'.cell? ⟨(ad150.add ((x4_1).toNat * 4)).block, (ad150.add ((x4_1).toNat * 4)).off + 2, none⟩ = some (.slice A150_2 ((rd_T61 l0 x4_1).f2).length c150_2) ∧ w'.cell? ⟨(ad150.add ((x4_1).toNat * 4)).block, (ad150.add ((x4_1).toNat * 4)).off + 3, none⟩ = some (.int .i64 ((rd_T61 l0 x4_1).f3)) ∧ w'.cell? (ad150.add ((x4_1).toNat * 4)) = some (.int .i64 ((rd_T61 l0 x4_1).f0)) ∧ w'.cell? ⟨(ad150.add ((x4_1).toNat * 4)).block, (ad150.add ((x4_1).toNat * 4)).off + 1, none⟩ = some (.int .i64 ((rd_T61 l0 x4_1).f1)) ∧ w'.cell? ⟨(ad150.add ((x4_1).toNat * 4)).block, (ad150.add ((x4_1).toNat * 4)).off + 2, none⟩ = some (.slice A150_2 ((rd_T61 l0 x4_1).f2).length c150_2) ∧ w'.cell? ⟨(ad150.add ((x4_1).toNat * 4)).block, (ad150.add ((x4_1).toNat * 4)).off + 3, none⟩ = some (.int .i64 ((rd_T61 l0 x4_1).f3))) (ds := [22, 23]) #[false, false, false, false, false, false, false, false, false, false, false, false, false, false, false, false, false, false, false, false, false, false, false, false, false] (by kernel_rfl) rfl rfl ⟨hx150_0, hx150_1, hx150_2, hx150_3, hx151_0, hx151_1, hx151_2, hx151_3, hx152_0, hx152_1, hx152_2, hx152_3, hx153_0, hx153_1, hx153_2, hx153_3⟩ (fun hHeld => ?_); refine with_tabW avocetlaw17_ours.tab5 avocetlaw17_ours.bits5 (fun HT_ HW_ => ?_)
            generalize wr.drew = w5 at HO_0 HO_3 HB HL150_2 HL151_2 HL152_2 HL153_2 HR150_2 HR151_2 HR152_2 HR153_2 hx150_0 hx150_1 hx150_2 hx150_3 hx151_0 hx151_1 hx151_2 hx151_3 hx152_0 hx152_1 hx152_2 hx152_3 hx153_0 hx153_1 hx153_2 hx153_3 hHeld ⊢
            refine pure_ (i := 0) (N := some 11) (v := ?_) (a' := ?_) #[true, false, false, false, false, false, false, false, false, false, false, false, false, false, false, false, false, false, false, false, false, false, false, false, false] rfl rfl (any_of HT_.out (by kernel_rfl)) (fun _ _ _ h => h) (Or.inl ⟨by rfl, ?_⟩) ?_ ?_
            rotate_left
            · intro w'
              go_simp
              with_reducible rfl
            rotate_left
            · simp only [Act.put, List.setIfInBounds_toArray, List.set_cons_zero, List.set_cons_succ, i64_w, i32_w]
              rfl
            refine pure_ (i := 1) (N := some 12) (v := ?_) (a' := ?_) #[true, true, false, false, false, false, false, false, false, false, false, false, false, false, false, false, false, false, false, false, false, false, false, false, false] rfl rfl (any_of HT_.out (by kernel_rfl)) (fun _ _ _ h => h) (Or.inl ⟨by rfl, ?_⟩) ?_ ?_
            rotate_left
            · intro w'
              go_simp
              with_reducible rfl
            rotate_left
            · simp only [Act.put, List.setIfInBounds_toArray, List.set_cons_zero, List.set_cons_succ, i64_w, i32_w]
              rfl
            refine pure_ (i := 2) (N := some 13) (v := ?_) (a' := ?_) #[true, true, true, false, false, false, false, false, false, false, false, false, false, false, false, false, false, false, false, false, false, false, false, false, false] rfl rfl (any_of HT_.out (by kernel_rfl)) (fun _ _ _ h => h) (Or.inl ⟨by rfl, ?_⟩) ?_ ?_
            rotate_left
            · intro w'
              go_simp
              with_reducible rfl
            rotate_left
            · simp only [Act.put, List.setIfInBounds_toArray, List.set_cons_zero, List.set_cons_succ, i64_w, i32_w]
              rfl
            refine pure_ (i := 3) (N := some 14) (v := ?_) (a' := ?_) #[true, true, true, true, false, false, false, false, false, false, false, false, false, false, false, false, false, false, false, false, false, false, false, false, false] rfl rfl (any_of HT_.out (by kernel_rfl)) (fun _ _ _ h => h) (Or.inl ⟨by rfl, ?_⟩) ?_ ?_
            rotate_left
            · intro w'
              go_simp
              with_reducible rfl
            rotate_left
            · simp only [Act.put, List.setIfInBounds_toArray, List.set_cons_zero, List.set_cons_succ, i64_w, i32_w]
              rfl
            refine pure_ (i := 4) (N := some 15) (v := ?_) (a' := ?_) #[true, true, true, true, true, false, false, false, false, false, false, false, false, false, false, false, false, false, false, false, false, false, false, false, false] rfl rfl (any_of HT_.out (by kernel_rfl)) (fun _ _ _ h => h) (Or.inl ⟨by rfl, ?_⟩) ?_ ?_
            rotate_left
            · intro w'
              go_simp
              with_reducible rfl
            rotate_left
            · simp only [Act.put, List.setIfInBounds_toArray, List.set_cons_zero, List.set_cons_succ, i64_w, i32_w]
              rfl
            refine pure_ (i := 6) (N := some 17) (v := ?_) (a' := ?_) #[true, true, true, true, true, false, true, false, false, false, false, false, false, false, false, false, false, false, false, false, false, false, false, false, false] rfl rfl (any_of HT_.out (by kernel_rfl)) (fun _ _ _ h => h) (Or.inl ⟨by rfl, ?_⟩) ?_ ?_
            rotate_left
            · intro w'
              go_simp
              with_reducible rfl
            rotate_left
            · simp only [Act.put, List.setIfInBounds_toArray, List.set_cons_zero, List.set_cons_succ, i64_w, i32_w]
              rfl
            refine pure_ (i := 7) (N := some 18) (v := ?_) (a' := ?_) #[true, true, true, true, true, false, true, true, false, false, false, false, false, false, false, false, false, false, false, false, false, false, false, false, false] rfl rfl (any_of HT_.out (by kernel_rfl)) (fun _ _ _ h => h) (Or.inl ⟨by rfl, ?_⟩) ?_ ?_
            rotate_left
            · intro w'
              go_simp
              with_reducible rfl
            rotate_left
            · simp only [Act.put, List.setIfInBounds_toArray, List.set_cons_zero, List.set_cons_succ, i64_w, i32_w]
              rfl
            refine pure_ (i := 8) (N := some 19) (v := ?_) (a' := ?_) #[true, true, true, true, true, false, true, true, true, false, false, false, false, false, false, false, false, false, false, false, false, false, false, false, false] rfl rfl (any_of HT_.out (by kernel_rfl)) (fun _ _ _ h => h) (Or.inl ⟨by rfl, ?_⟩) ?_ ?_
            rotate_left
            · intro w'
              go_simp
              with_reducible rfl
            rotate_left
            · simp only [Act.put, List.setIfInBounds_toArray, List.set_cons_zero, List.set_cons_succ, i64_w, i32_w]
              rfl
            refine pure_ (i := 9) (N := some 20) (v := ?_) (a' := ?_) #[true, true, true, true, true, false, true, true, true, true, false, false, false, false, false, false, false, false, false, false, false, false, false, false, false] rfl rfl (any_of HT_.out (by kernel_rfl)) (fun _ _ _ h => h) (Or.inl ⟨by rfl, ?_⟩) ?_ ?_
            rotate_left
            · intro w'
              go_simp
              with_reducible rfl
            rotate_left
            · simp only [Act.put, List.setIfInBounds_toArray, List.set_cons_zero, List.set_cons_succ, i64_w, i32_w]
              rfl
            refine pure_ (i := 11) (N := some 22) (v := ?_) (a' := ?_) #[true, true, true, true, true, false, true, true, true, true, false, true, false, false, false, false, false, false, false, false, false, false, false, false, false] rfl rfl (any_of HT_.out (by kernel_rfl)) (fun _ _ _ h => h) (Or.inl ⟨by rfl, ?_⟩) ?_ ?_
            rotate_left
            · intro w'
              go_simp
              with_reducible rfl
            rotate_left
            · simp only [Act.put, List.setIfInBounds_toArray, List.set_cons_zero, List.set_cons_succ, i64_w, i32_w]
              rfl
            refine pure_ (i := 12) (N := some 23) (v := ?_) (a' := ?_) #[true, true, true, true, true, false, true, true, true, true, false, true, true, false, false, false, false, false, false, false, false, false, false, false, false] rfl rfl (any_of HT_.out (by kernel_rfl)) (fun _ _ _ h => h) (Or.inl ⟨by rfl, ?_⟩) ?_ ?_
            rotate_left
            · intro w'
              go_simp
              with_reducible rfl
            rotate_left
            · simp only [Act.put, List.setIfInBounds_toArray, List.set_cons_zero, List.set_cons_succ, i64_w, i32_w]
              rfl
            refine pure_ (i := 13) (N := some 24) (v := ?_) (a' := ?_) #[true, true, true, true, true, false, true, true, true, true, false, true, true, true, false, false, false, false, false, false, false, false, false, false, false] rfl rfl (any_of HT_.out (by kernel_rfl)) (fun _ _ _ h => h) (Or.inl ⟨by rfl, ?_⟩) ?_ ?_
            rotate_left
            · intro w'
              go_simp
              with_reducible rfl
            rotate_left
            · simp only [Act.put, List.setIfInBounds_toArray, List.set_cons_zero, List.set_cons_succ, i64_w, i32_w]
              rfl
            refine pure_ (i := 14) (N := some 25) (v := ?_) (a' := ?_) #[true, true, true, true, true, false, true, true, true, true, false, true, true, true, true, false, false, false, false, false, false, false, false, false, false] rfl rfl (any_of HT_.out (by kernel_rfl)) (fun _ _ _ h => h) (Or.inl ⟨by rfl, ?_⟩) ?_ ?_
            rotate_left
            · intro w'
              go_simp
              with_reducible rfl
            rotate_left
            · simp only [Act.put, List.setIfInBounds_toArray, List.set_cons_zero, List.set_cons_succ, i64_w, i32_w]
              rfl
            refine pure_ (i := 16) (N := some 27) (v := ?_) (a' := ?_) #[true, true, true, true, true, false, true, true, true, true, false, true, true, true, true, false, true, false, false, false, false, false, false, false, false] rfl rfl (any_of HT_.out (by kernel_rfl)) (fun _ _ _ h => h) (Or.inl ⟨by rfl, ?_⟩) ?_ ?_
            rotate_left
            · intro w'
              go_simp
              with_reducible rfl
            rotate_left
            · simp only [Act.put, List.setIfInBounds_toArray, List.set_cons_zero, List.set_cons_succ, i64_w, i32_w]
              rfl
            refine pure_ (i := 17) (N := some 28) (v := ?_) (a' := ?_) #[true, true, true, true, true, false, true, true, true, true, false, true, true, true, true, false, true, true, false, false, false, false, false, false, false] rfl rfl (any_of HT_.out (by kernel_rfl)) (fun _ _ _ h => h) (Or.inl ⟨by rfl, ?_⟩) ?_ ?_
            rotate_left
            · intro w'
              go_simp
              with_reducible rfl
            rotate_left
            · simp only [Act.put, List.setIfInBounds_toArray, List.set_cons_zero, List.set_cons_succ, i64_w, i32_w]
              rfl
            refine pure_ (i := 18) (N := some 29) (v := ?_) (a' := ?_) #[true, true, true, true, true, false, true, true, true, true, false, true, true, true, true, false, true, true, true, false, false, false, false, false, false] rfl rfl (any_of HT_.out (by kernel_rfl)) (fun _ _ _ h => h) (Or.inl ⟨by rfl, ?_⟩) ?_ ?_
            rotate_left
            · intro w'
              go_simp
              with_reducible rfl
            rotate_left
            · simp only [Act.put, List.setIfInBounds_toArray, List.set_cons_zero, List.set_cons_succ, i64_w, i32_w]
              rfl
            refine pure_ (i := 19) (N := some 30) (v := ?_) (a' := ?_) #[true, true, true, true, true, false, true, true, true, true, false, true, true, true, true, false, true, true, true, true, false, false, false, false, false] rfl rfl (any_of HT_.out (by kernel_rfl)) (fun _ _ _ h => h) (Or.inl ⟨by rfl, ?_⟩) ?_ ?_
            rotate_left
            · intro w'
              go_simp
              with_reducible rfl
            rotate_left
            · simp only [Act.put, List.setIfInBounds_toArray, List.set_cons_zero, List.set_cons_succ, i64_w, i32_w]
              rfl
            refine take_ (i := 5) (N := some 16) (v := ?_) (a' := ?_) #[true, true, true, true, true, true, true, true, true, true, false, true, true, true, true, false, true, true, true, true, false, false, false, false, false] rfl rfl (take_ofW HT_.out HW_.out (by kernel_rfl)) (fun _ _ _ h => h) (Or.inl ⟨by rfl, ?_⟩) hHeld ?_ ?_
            rotate_left
            · rintro w' ⟨s0, s1, s2, s3, s4, s5, s6, s7, s8, s9, s10, s11, s12, s13, s14, s15⟩
              go_simp
              with_reducible rfl
            rotate_left
            · simp only [Act.put, List.setIfInBounds_toArray, List.set_cons_zero, List.set_cons_succ, i64_w, i32_w]
              rfl
            refine take_ (i := 10) (N := some 21) (v := ?_) (a' := ?_) #[true, true, true, true, true, true, true, true, true, true, true, true, true, true, true, false, true, true, true, true, false, false, false, false, false] rfl rfl (take_ofW HT_.out HW_.out (by kernel_rfl)) (fun _ _ _ h => h) (Or.inl ⟨by rfl, ?_⟩) hHeld ?_ ?_
            rotate_left
            · rintro w' ⟨s0, s1, s2, s3, s4, s5, s6, s7, s8, s9, s10, s11, s12, s13, s14, s15⟩
              go_simp
              with_reducible rfl
            rotate_left
            · simp only [Act.put, List.setIfInBounds_toArray, List.set_cons_zero, List.set_cons_succ, i64_w, i32_w]
              rfl
            refine take_ (i := 15) (N := some 26) (v := ?_) (a' := ?_) #[true, true, true, true, true, true, true, true, true, true, true, true, true, true, true, true, true, true, true, true, false, false, false, false, false] rfl rfl (take_ofW HT_.out HW_.out (by kernel_rfl)) (fun _ _ _ h => h) (Or.inl ⟨by rfl, ?_⟩) hHeld ?_ ?_
            rotate_left
            · rintro w' ⟨s0, s1, s2, s3, s4, s5, s6, s7, s8, s9, s10, s11, s12, s13, s14, s15⟩
              go_simp
              with_reducible rfl
            rotate_left
            · simp only [Act.put, List.setIfInBounds_toArray, List.set_cons_zero, List.set_cons_succ, i64_w, i32_w]
              rfl
            refine take_ (i := 20) (N := some 31) (v := ?_) (a' := ?_) #[true, true, true, true, true, true, true, true, true, true, true, true, true, true, true, true, true, true, true, true, true, false, false, false, false] rfl rfl (take_ofW HT_.out HW_.out (by kernel_rfl)) (fun _ _ _ h => h) (Or.inl ⟨by rfl, ?_⟩) hHeld ?_ ?_
            rotate_left
            · rintro w' ⟨s0, s1, s2, s3, s4, s5, s6, s7, s8, s9, s10, s11, s12, s13, s14, s15⟩
              go_simp
              with_reducible rfl
            rotate_left
            · simp only [Act.put, List.setIfInBounds_toArray, List.set_cons_zero, List.set_cons_succ, i64_w, i32_w]
              rfl
            refine pure_ (i := 21) (N := some 32) (v := ?_) (a' := ?_) #[true, true, true, true, true, true, true, true, true, true, true, true, true, true, true, true, true, true, true, true, true, true, false, false, false] rfl rfl (any_of HT_.out (by kernel_rfl)) (fun _ _ _ h => h) (Or.inl ⟨by rfl, ?_⟩) ?_ ?_
            rotate_left
            · intro w'
              go_simp
              with_reducible rfl
            rotate_left
            · simp only [Act.put, List.setIfInBounds_toArray, List.set_cons_zero, List.set_cons_succ, i64_w, i32_w]
              rfl
            refine last_ (i := 22) (N := some 33) #[true, true, true, true, true, true, true, true, true, true, true, true, true, true, true, true, true, true, true, true, true, true, true, false, false] rfl rfl (one_of HT_.out (by kernel_rfl)) (by decide) (fun K hK => ?_)
            refine value_ (w1 := ?_) (v := ?_) (by rfl) rfl ?_ ?_
            rotate_left 2
            · go_simp
              constructor
              · rfl
              · rfl
            refine hK.out _ _ ?_
            clear hK K
            refine norm_ (a' := ?_) ?_ ?_
            rotate_left
            · show Act.put _ (some 33) _ = _
              simp only [Act.put, List.setIfInBounds_toArray, List.set_cons_zero, List.set_cons_succ, i64_w, i32_w]
              rfl
            refine last_ (i := 23) (N := some 34) #[true, true, true, true, true, true, true, true, true, true, true, true, true, true, true, true, true, true, true, true, true, true, true, true, false] rfl rfl (one_of HT_.out (by kernel_rfl)) (by decide) (fun K hK => ?_)
            refine Kd.N_append_step k58 (w0 := w) w.heap.size (by rfl) (.tmp 11) (.tmp 33) 45 58 (.agg #[(.int .i64 0), (.int .i64 0), (.slice none 0 0), (.int .i64 0)]) 48 rfl Try.underlying45 info58 rfl (by decide) (by omega) u3 x3_1 (⟨(rd_T61 l0 x4_1).f0, (rd_T61 l0 x4_1).f1, (rd_T61 l0 x4_1).f2, (rd_T61 l0 x4_1).f3⟩ : S58) [.int .i64 ((rd_T61 l0 x4_1).f0), .int .i64 ((rd_T61 l0 x4_1).f1), .slice A150_2 ((rd_T61 l0 x4_1).f2).length c150_2, .int .i64 ((rd_T61 l0 x4_1).f3)] (fun k_ => (P0_ k_ ∨ w.heap.size ≤ k_)) (fun k_ => ((fun k_ => (P0_ k_ ∨ w.heap.size ≤ k_))) k_ ∧ some k_ ≠ (u3 : Value).ownBlock) rfl rfl ?aP (fun _ hk => hk) ?aF ?aO ?aB ?aS ?aL ?_
            (case aP => exact (k58_mkF _ _ (⟨(rd_T61 l0 x4_1).f0, (rd_T61 l0 x4_1).f1, (rd_T61 l0 x4_1).f2, (rd_T61 l0 x4_1).f3⟩ : S58) (Kd.V_reads' (Kd.V_mono (ok' := (fun k_ => ((fun k_ => (P0_ k_ ∨ w.heap.size ≤ k_))) k_ ∧ some k_ ≠ (u3 : Value).ownBlock)) (HL152_2.out) (fun k_ hk => ⟨hk.1, hk.2⟩))).2.1 (Kd.V_F (Kd.V_mono (ok' := (fun k_ => ((fun k_ => (P0_ k_ ∨ w.heap.size ≤ k_))) k_ ∧ some k_ ≠ (u3 : Value).ownBlock)) (HL152_2.out) (fun k_ hk => ⟨hk.1, hk.2⟩)))))
            (case aB => exact (by repeat (first | (with_reducible first | exact HB.out | apply below_alloc | apply pw_below_drewN | apply below_drew1) | exact HB.out)))
            (case aF => exact (fun k_ hk => (.inr (Nat.le_trans (below_size (by repeat (first | (with_reducible first | exact HB.out | apply below_alloc | apply pw_below_drewN | apply below_drew1) | exact HB.out))) hk))))
            (case aO => exact (by (with_reducible repeat (first | apply Kd.N_alloc | apply Kd.N_drewN | apply Kd.N_drew)); exact HO_3.out))
            (case aS => exact (below_size (by repeat (first | (with_reducible first | exact HB.out | apply below_alloc | apply pw_below_drewN | apply below_drew1) | exact HB.out))))
            (case aL => have := LMc4.out; omega)
            intro v155 w6 ho hb hg hat
            rw [← Ny154.out] at ho
            have n0_ := Aside0.mk (Kd.V_afterv (ok := (fun k_ => (P0_ k_ ∨ w.heap.size ≤ k_))) (by (with_reducible repeat (first | apply Kd.V_alloc | apply Kd.V_drewN | apply Kd.V_drew)); exact HO_0.out) hg hat)
            have n1_ := Aside0.mk (Kd.V_afterv (ok := (fun k_ => (P0_ k_ ∨ w.heap.size ≤ k_))) (by (with_reducible repeat (first | apply Kd.V_alloc | apply Kd.V_drewN | apply Kd.V_drew)); exact HL150_2.out) hg hat)
            have n2_ := Aside0.mk (Kd.V_afterv (ok := (fun k_ => (P0_ k_ ∨ w.heap.size ≤ k_))) (by (with_reducible repeat (first | apply Kd.V_alloc | apply Kd.V_drewN | apply Kd.V_drew)); exact HL151_2.out) hg hat)
            have n3_ := Aside0.mk (Kd.V_afterv (ok := (fun k_ => (P0_ k_ ∨ w.heap.size ≤ k_))) (by (with_reducible repeat (first | apply Kd.V_alloc | apply Kd.V_drewN | apply Kd.V_drew)); exact HL152_2.out) hg hat)
            have n4_ := Aside0.mk (Kd.V_afterv (ok := (fun k_ => (P0_ k_ ∨ w.heap.size ≤ k_))) (by (with_reducible repeat (first | apply Kd.V_alloc | apply Kd.V_drewN | apply Kd.V_drew)); exact HL153_2.out) hg hat)
            have n5_ := Aside0.mk (hb)
            have n6_ := Aside0.mk (ho)
            clear HO_0
            clear HL150_2
            clear HL151_2
            clear HL152_2
            clear HL153_2
            clear HB
            clear HO_3
            have HO_0 := n0_
            have HL150_2 := n1_
            have HL151_2 := n2_
            have HL152_2 := n3_
            have HL153_2 := n4_
            have HB := n5_
            have HO156 := n6_
            clear n0_ n1_ n2_ n3_ n4_ n5_ n6_
            clear ho hb hg hat
            refine hK.out _ _ ?_
            clear hK K
            refine norm_ (a' := ?_) ?_ ?_
            rotate_left
            · show Act.put _ (some 34) _ = _
              simp only [Act.put, List.setIfInBounds_toArray, List.set_cons_zero, List.set_cons_succ, i64_w, i32_w]
              rfl
            refine pure_ (i := 24) (N := some 3) (v := ?_) (a' := ?_) #[true, true, true, true, true, true, true, true, true, true, true, true, true, true, true, true, true, true, true, true, true, true, true, true, true] rfl rfl (any_of HT_.out (by kernel_rfl)) (fun _ _ _ h => h) (Or.inl ⟨by rfl, ?_⟩) ?_ ?_
            rotate_left
            · intro w'
              go_simp
              with_reducible rfl
            rotate_left
            · simp only [Act.put, List.setIfInBounds_toArray, List.set_cons_zero, List.set_cons_succ, i64_w, i32_w]
              rfl
            refine done_ (done_of HT_.out (by kernel_rfl)) ?_
            try go_wp2
            go_roundg k1
            case measure => have := HK1.out; omega
            case rel => exact ⟨(y154), (wrap64 (x4_1 + 1)), (by first | rfl | (simp; done) | (simp [*]; done)), H', ⟨by have := HK1.out; omega⟩, ⟨by (with_reducible repeat (first | apply Kd.V_alloc | apply Kd.V_drewN | apply Kd.V_drew)); exact HO_0.out⟩, ⟨by (with_reducible repeat (first | apply Kd.N_alloc | apply Kd.N_drewN | apply Kd.N_drew)); exact HO156.out⟩, ⟨by repeat (first | (with_reducible first | exact HB.out | apply below_alloc | apply pw_below_drewN | apply below_drew1) | exact HB.out)⟩⟩
          · rw [if_neg c4] at H
            exact absurd H (by simp)
        · rw [if_neg c3] at H
          exact absurd H (by simp)
      · rw [if_neg c2] at H
        have c2b0 : decide (x4_1 < (l0.length : Int)) = false := decide_eq_false c2
        clear c2
        obtain rfl := Option.some.inj H
        go_wp2
        go_ret
        exact ⟨_, by first | rfl | (simp [errW_none, errW_some] <;> rfl) | (simp [*, errW_none, errW_some] <;> rfl), by (with_reducible repeat (first | apply Kd.N_alloc | apply Kd.N_drewN | apply Kd.N_drew)); exact HO_3.out, by repeat (first | (with_reducible first | exact HB.out | apply below_alloc | apply pw_below_drewN | apply below_drew1) | exact HB.out)⟩

-- NOT PRINTED: function 31 (avocetref17_Stack_Load)

-- NOT PRINTED: function 8 (avocetlaw17_FramesLoad)

end Go.Proofs.Ytbbgkelcdooabaa.G
