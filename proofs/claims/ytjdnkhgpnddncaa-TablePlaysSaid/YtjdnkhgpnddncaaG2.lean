-- Made by gprint.py (mine) over the kit's print.py, out of the translation; parts of it typed by hand.
import Derived.Test.YtjdnkhgpnddncaaG0
import Derived.Test.YtjdnkhgpnddncaaG1
namespace Go.Proofs.Ytjdnkhgpnddncaa.G
open Go.RowKit Go.Proofs.YtjdnkhgpnddncaaW.PrintWords Go.Proofs.YtjdnkhgpnddncaaW.PrintLast Go.Proofs.YtjdnkhgpnddncaaW.PrintMore
attribute [local go_sem] max2_int min2_int max_two min_two max_three min_three max_four min_four   -- for this text's walks alone
set_option linter.unusedVariables false
set_option linter.unusedSimpArgs false

/-! ### avocetref14_Globs_Type: function 38 -/
def avocetref14_Globs_Type.f (s0_0 : List (S95)) (a1 : Int) : Option (Int × Bool × Bool) := if a1 < 0 then (some (0, false, false)) else (if a1 ≥ (s0_0.length : Int) then (some (0, false, false)) else (if 0 ≤ a1 then (if a1 < (s0_0.length : Int) then (some ((rd_T95 s0_0 a1).f0, (rd_T95 s0_0 a1).f1, true)) else (none)) else (none)))
set_option maxHeartbeats 8000000 in
set_option maxRecDepth 100000 in
theorem avocetref14_Globs_Type.calls (g : Nat) (s0_0 : List (S95)) (a1 : Int) (r1 : Int) (r2 : Bool) (r3 : Bool) (w0 w : World) (hI : IsS68 w0 w g s0_0) (hB : Below w0.heap.size w0 w) (h : avocetref14_Globs_Type.f s0_0 a1 = some (r1, r2, r3)) :
    Calls Try.prog 38 #[.pointer (some ⟨g, 0, none⟩), .int .i64 a1] w fun e w' => e = .returned (.tuple #[.int .u8 r1, .bool r2, .bool r3]) ∧ IsS68 w0 w' g s0_0 ∧ Below w0.heap.size w0 w' ∧ KeepBut w w' g none := by
  have HI0 := Aside0.mk hI
  have HK := Aside0.mk (KeepBut.refl w g none)
  have HL := Aside0.mk hB.size
  clear hI
  have HW0 := Aside0.mk hB.size
  have HB := Aside0.mk hB
  clear hB
  have H : (if a1 < 0 then (some (0, false, false)) else (if a1 ≥ (s0_0.length : Int) then (some (0, false, false)) else (if 0 ≤ a1 then (if a1 < (s0_0.length : Int) then (some ((rd_T95 s0_0 a1).f0, (rd_T95 s0_0 a1).f1, true)) else (none)) else (none)))) = some (r1, r2, r3) := h
  clear h
  by_cases c3 : a1 < 0
  · rw [if_pos c3] at H
    have c3b0 : decide (a1 < 0) = true := decide_eq_true c3
    clear c3
    simp only [Option.some.injEq, Prod.mk.injEq] at H
    obtain ⟨rfl, rfl, rfl⟩ := H
    go_enter Try.func38, Try.ntmps38
    go_wp2
    repeat (go_quiet (fail); try go_wp2)
    go_ret3
    exact ⟨by first | rfl | (simp [errW_none, errW_some] <;> rfl) | (simp [*, errW_none, errW_some] <;> rfl), by repeat (first | (with_reducible first | exact HI0.out | apply IsS68.alloc | apply IsS68.drewN | apply IsS68.drew) | exact HI0.out), by repeat (first | (with_reducible first | exact HB.out | apply below_alloc | apply pw_below_drewN | apply below_drew1 | refine below_set ?_ (IsS68.ge HI0.out)) | exact HB.out), by repeat (first | (with_reducible first | exact HK.out | apply KeepBut.set_ | apply keep_drewN | apply keep_drew | apply keep_alloc) | exact HK.out)⟩
  · rw [if_neg c3] at H
    have c3b0 : decide (a1 < 0) = false := decide_eq_false c3
    clear c3
    by_cases c4 : a1 ≥ (s0_0.length : Int)
    · rw [if_pos c4] at H
      have c4b0 : decide ((s0_0.length : Int) ≤ a1) = true := decide_eq_true c4
      clear c4
      simp only [Option.some.injEq, Prod.mk.injEq] at H
      obtain ⟨rfl, rfl, rfl⟩ := H
      obtain ⟨ASz5_0, cSz5_0, HGz5, hgz5, HSz5_0⟩ := HI0.out
      have hcz5_0 := cellS68_0 HGz5
      clear HGz5 hgz5
      go_enter Try.func38, Try.ntmps38
      go_wp2
      repeat (go_quiet (fail); try go_wp2)
      go_ret3
      exact ⟨by first | rfl | (simp [errW_none, errW_some] <;> rfl) | (simp [*, errW_none, errW_some] <;> rfl), by repeat (first | (with_reducible first | exact HI0.out | apply IsS68.alloc | apply IsS68.drewN | apply IsS68.drew) | exact HI0.out), by repeat (first | (with_reducible first | exact HB.out | apply below_alloc | apply pw_below_drewN | apply below_drew1 | refine below_set ?_ (IsS68.ge HI0.out)) | exact HB.out), by repeat (first | (with_reducible first | exact HK.out | apply KeepBut.set_ | apply keep_drewN | apply keep_drew | apply keep_alloc) | exact HK.out)⟩
    · rw [if_neg c4] at H
      have c4b0 : decide ((s0_0.length : Int) ≤ a1) = false := decide_eq_false c4
      clear c4
      by_cases c6 : 0 ≤ a1
      · rw [if_pos c6] at H
        have c6b0 : decide (0 ≤ a1) = true := decide_eq_true c6
        clear c6
        by_cases c7 : a1 < (s0_0.length : Int)
        · rw [if_pos c7] at H
          have c7b0 : decide (a1 < (s0_0.length : Int)) = true := decide_eq_true c7
          clear c7
          simp only [Option.some.injEq, Prod.mk.injEq] at H
          obtain ⟨rfl, rfl, rfl⟩ := H
          obtain ⟨ASz8_0, cSz8_0, HGz8, hgz8, HSz8_0⟩ := HI0.out
          have hcz8_0 := cellS68_0 HGz8
          clear HGz8 hgz8
          have p118 : 0 ≤ (a1 : Int) := of_decide_eq_true (by first | (with_reducible assumption) | assumption)
          have q118 : a1 < (s0_0.length : Int) := of_decide_eq_true (by first | (with_reducible assumption) | assumption)
          obtain ⟨ad118, e118, hx118_0, hx118_1, hx118_2⟩ := at_T95 HSz8_0 a1 p118 q118
          cases e118
          replace hx118_0 := pw_cell_below HB.out hx118_0
          replace hx118_1 := pw_cell_below HB.out hx118_1
          replace hx118_2 := pw_cell_below HB.out hx118_2
          replace p118 := eq_true p118
          replace q118 := eq_true q118
          have p119 : 0 ≤ (a1 : Int) := of_decide_eq_true (by first | (with_reducible assumption) | assumption)
          have q119 : a1 < (s0_0.length : Int) := of_decide_eq_true (by first | (with_reducible assumption) | assumption)
          obtain ⟨ad119, e119, hx119_0, hx119_1, hx119_2⟩ := at_T95 HSz8_0 a1 p119 q119
          obtain rfl : ad118 = ad119 := (by injection e119)
          replace hx119_0 := pw_cell_below HB.out hx119_0
          replace hx119_1 := pw_cell_below HB.out hx119_1
          replace hx119_2 := pw_cell_below HB.out hx119_2
          replace p119 := eq_true p119
          replace q119 := eq_true q119
          go_enter Try.func38, Try.ntmps38
          go_wp2
          repeat (go_quiet (fail); try go_wp2)
          go_ret3
          exact ⟨by first | rfl | (simp [errW_none, errW_some] <;> rfl) | (simp [*, errW_none, errW_some] <;> rfl), by repeat (first | (with_reducible first | exact HI0.out | apply IsS68.alloc | apply IsS68.drewN | apply IsS68.drew) | exact HI0.out), by repeat (first | (with_reducible first | exact HB.out | apply below_alloc | apply pw_below_drewN | apply below_drew1 | refine below_set ?_ (IsS68.ge HI0.out)) | exact HB.out), by repeat (first | (with_reducible first | exact HK.out | apply KeepBut.set_ | apply keep_drewN | apply keep_drew | apply keep_alloc) | exact HK.out)⟩
        · rw [if_neg c7] at H
          exact absurd H (by simp)
      · rw [if_neg c6] at H
        exact absurd H (by simp)

-- NOT PRINTED: function 39 (avocetref14_Globs_All)

-- NOT PRINTED: function 25 (avocetlaw14_globs)

-- NOT PRINTED: function 7 (avocetlaw14_TablePlays)

end Go.Proofs.Ytjdnkhgpnddncaa.G
