/- StackGrows: what is sane stays so, walked. -/
import Derived.Test.YtagblobimoedcaaStkL
import Derived.Test.YtagblobimoedcaaStkP
namespace Go.Proofs.Ytagblobimoedcaa.G
open Go.RowKit Go.Proofs.YtagblobimoedcaaW.PrintWords Go.Proofs.YtagblobimoedcaaW.PrintLast Go.Proofs.YtagblobimoedcaaW.PrintMore
set_option linter.unusedVariables false
set_option linter.unusedSimpArgs false
theorem modest_all {l : List S47} (hf : fewA l) : modest (gAll l).1 (gAll l).2 := by
  have := gAll_len hf l.length (Nat.le_refl _)
  rw [List.take_length] at this
  exact ⟨by have := hf.1; omega, by have := hf.1; omega⟩
set_option maxHeartbeats 8000000 in
set_option maxRecDepth 100000 in
theorem stackGrows (A : Option Addr) (c : Nat) (l : List S47) (w : World) (hC : Kd.C k47 w A l.length l) (hc : l.length ≤ c) : Calls Try.prog 3 #[.slice A l.length c] w fun e w' => e = .returned (.bool true) ∧ Below w.heap.size w w' := by
  have HC := Aside0.mk hC
  clear hC
  obtain ⟨b, hb⟩ : ∃ b, fewB l = b := ⟨_, rfl⟩
  have HF := Aside0.mk (fun (W : World) (hW : Below w.heap.size w W) => hb ▸ fewS (Kd.C_below HC.out hW) hc)
  cases b with
  | false =>
    clear hb
    go_enter Try.func3, Try.ntmps3
    go_wp2_with (first
      | (go_at_call 9; (with_reducible refine (awakeS _).mono ?_); rintro e w1 ⟨rfl, hb⟩; have HB := Aside0.mk hb; clear hb)
      | (go_at_call 10; (with_reducible refine (HF.out _ HB.out).mono ?_); rintro e w2 ⟨rfl, hb⟩; have HB2 := Aside0.mk (below_then HB.out HB.out.size hb); clear hb))
    go_ret
    exact ⟨rfl, HB2.out⟩
  | true =>
    have hf := (fewB_iff l).1 hb
    have HG := Aside0.mk (fun (W : World) (hW : Below w.heap.size w W) => growns A c l W (Kd.C_below HC.out hW) hf)
    have hm := modest_all hf
    have hs := sane_all l
    obtain ⟨v, cs, hvc⟩ : ∃ v cs, gAll l = (v, cs) := ⟨_, _, rfl⟩
    rw [hvc] at HG hm hs
    simp only at HG hm hs
    have HSN := Aside0.mk (fun (W : World) (A0 A1 : Option Addr) (c0 c1 : Nat) (h : HoldS W A0 c0 A1 c1 v cs) => hs ▸ stkSane h hm)
    have HM := Aside0.mk (sane_mem hs)
    clear hb hf hs hvc
    have hmc := hm.2
    go_enter Try.func3, Try.ntmps3
    go_wp2_with (first
      | (go_at_call 9; (with_reducible refine (awakeS _).mono ?_); rintro e w1 ⟨rfl, hb⟩; have HB := Aside0.mk hb; clear hb)
      | (go_at_call 10; (with_reducible refine (HF.out _ HB.out).mono ?_); rintro e w2 ⟨rfl, hb⟩; have HB2 := Aside0.mk (below_then HB.out HB.out.size hb); clear hb)
      | (go_at_call 11; (with_reducible refine (HG.out _ HB2.out).mono ?_); rintro e w3 ⟨A0, c0, A1, c1, rfl, h, hb⟩; have HW := Aside0.mk (((SB.start w).below (below_then HB2.out HB2.out.size hb)).box #[.slice A0 v.length c0, .slice A1 cs.length c1] 28); have HH := Aside0.mk (h.below (below_alloc (Below.refl _ _) (.cells #[.slice A0 v.length c0, .slice A1 cs.length c1] 28))); clear h hb))
    obtain ⟨w4, hw4⟩ : ∃ w4, w3.alloc (.cells #[.slice A0 v.length c0, .slice A1 cs.length c1] 28) = w4 := ⟨_, rfl⟩
    rw [hw4] at HW HH
    simp only [hw4]
    clear hw4
    go_loopw [5] (fun v5 wr => ∃ i : Nat, v5 = .int .i64 i ∧ i ≤ cs.length ∧ Aside0 (SB w wr [Box w3.heap.size #[.slice A0 v.length c0, .slice A1 cs.length c1] 28]) ∧ Aside0 (HoldS wr A0 c0 A1 c1 v cs)) (fun v5 _ => cs.length - (intOf v5).toNat)
    case atStart => exact ⟨0, rfl, Nat.zero_le _, ⟨HW.out⟩, ⟨HH.out⟩⟩
    case round =>
      obtain ⟨i, rfl, hi, HWr, HHr⟩ := hrel
      have x1 := SB.boxAt w3.heap.size 28 HWr.out
      have k0 := blk_cell x1 0
      have k1 := blk_cell x1 1
      clear x1
      by_cases hlt : i < cs.length
      · have d1 : decide ((i : Int) < (cs.length : Int)) = true := decide_eq_true (by omega)
        have d2 : decide (i < cs.length) = true := decide_eq_true hlt
        have p0 := eq_true (show (0 : Int) ≤ (i : Int) by omega)
        obtain ⟨ad, Ae, ce, had, _, _, r2, _, _, _⟩ := at_T31 HHr.out.hc (i : Int) (by omega) (by omega)
        subst had
        have hr : rd_T31 cs (i : Int) = cs[i] := by unfold rd_T31; rw [Int.toNat_natCast, List.getD_eq_getElem?_getD, List.getElem?_eq_getElem hlt]; rfl
        have hme := HM.out cs[i] (List.getElem_mem _)
        rw [hr, Int.toNat_natCast] at r2
        obtain ⟨z, hz⟩ : ∃ z, cs[i].f2 = z := ⟨_, rfl⟩
        rw [hz] at r2 hme
        clear hr hz
        have d3 : decide ((v.length : Int) < z) = false := decide_eq_false (by omega)
        have d4 : decide (z < 0) = false := decide_eq_false (by omega)
        go_wp2
        go_quiet (fail)
        go_wp2
        go_roundw
        case rel => exact ⟨i + 1, by go_num, by omega, ⟨HWr.out.drewN _⟩, ⟨HHr.out.below (pw_below_drewN (Below.refl _ _) _)⟩⟩
        case measure => simp [intOf]; omega
      · have d1 : decide ((i : Int) < (cs.length : Int)) = false := decide_eq_false (by omega)
        have d2 : decide (i < cs.length) = false := decide_eq_false hlt
        go_wp2_with (go_at_call 12; (with_reducible refine (HSN.out _ _ _ _ _ HHr.out).mono ?_); rintro e w5 ⟨rfl, hb⟩; have HB5 := Aside0.mk (HWr.out.below hb); clear hb)
        go_ret
        exact ⟨rfl, HB5.out.bel⟩
def avocetlaw09_StackGrows.f (l0 : List (S47)) : Option (Bool) := some true
theorem avocetlaw09_StackGrows.calls (A0 : Option Addr) (c0 : Nat) (l0 : List (S47)) (r : Bool) (w : World) (hr0 : Kd.C k47 w A0 l0.length l0) (hc0 : l0.length ≤ c0) (hr_ : r = true) (h : avocetlaw09_StackGrows.f l0 = some r) :
    Calls Try.prog 3 #[.slice A0 l0.length c0] w fun e w' => e = .returned (.bool r) ∧ Below w.heap.size w w' := by
  subst hr_
  exact stackGrows A0 c0 l0 w hr0 hc0
end Go.Proofs.Ytagblobimoedcaa.G
