/- Package frames' stacks: what a stack holds, and what its small functions tell. -/
import Derived.Lib.SliceRun
import Derived.Test.YtbbgkelcdooabaaG
import Derived.Test.YtbbgkelcdooabaaApp
namespace Go.Proofs.Ytbbgkelcdooabaa.G
open Go.RowKit Go.Proofs.YtbbgkelcdooabaaW.PrintWords Go.Proofs.YtbbgkelcdooabaaW.PrintLast Go.Proofs.YtbbgkelcdooabaaW.PrintMore
attribute [local go_sem] max2_int min2_int max_two min_two max_three min_three max_four min_four   -- for this text's walks alone
set_option linter.unusedVariables false
set_option linter.unusedSimpArgs false
theorem drawn_n (w : World) (n : Nat) : Drawn0 w (w.drewN n) := ⟨n, rfl⟩
theorem frTop0 (p : Nat) (w : World) (h : w.cell? ⟨p, 257, none⟩ = some (.int .i64 0)) :
    Calls Try.prog 34 #[.pointer (some ⟨p, 0, none⟩)] w fun e w' => e = .returned (.pointer none) ∧ Drawn0 w w' := by
  go_enter Try.func34, Try.ntmps34
  go_wp2
  go_ret
  exact ⟨rfl, by repeat (first | exact Drawn0.refl _ | apply Drawn0.step)⟩
theorem frTop (p n : Nat) (w : World) (hn : n < 64) (h : w.cell? ⟨p, 257, none⟩ = some (.int .i64 ((n + 1 : Nat) : Int))) :
    Calls Try.prog 34 #[.pointer (some ⟨p, 0, none⟩)] w fun e w' => e = .returned (.pointer (some ⟨p, 1 + n * 4, none⟩)) ∧ Drawn0 w w' := by
  have d0 : decide (((n + 1 : Nat) : Int) = 0) = false := decide_eq_false (by omega)
  have d0' : (((n + 1 : Nat) : Int) == 0) = false := beq_eq_false_iff_ne.2 (by omega)
  have hw : IntKind.i64.wrap (((n + 1 : Nat) : Int) - 1) = (n : Int) := by rw [IntKind.wrap_i64]; omega
  have HN := Aside0.mk hn
  obtain ⟨m, hm⟩ : ∃ m : Int, ((n + 1 : Nat) : Int) = m := ⟨_, rfl⟩
  rw [hm] at d0 d0' hw h
  clear hm
  go_enter Try.func34, Try.ntmps34
  go_wp2
  go_quiet (fail)
  go_wp2
  go_ret
  exact ⟨rfl, drawn_n _ _⟩
theorem frTopNil (w : World) : Calls Try.prog 34 #[.pointer none] w fun e w' => e = .returned (.pointer none) ∧ Drawn0 w w' := by
  go_enter Try.func34, Try.ntmps34
  go_wp2
  go_ret
  exact ⟨rfl, by repeat (first | exact Drawn0.refl _ | apply Drawn0.step)⟩
/-- So many frames, and so many values below the top one's own. -/
def AtB (w : World) (p : Nat) (n : Nat) (b : Int) : Prop :=
  w.cell? ⟨p, 257, none⟩ = some (.int .i64 (n : Int)) ∧ ((n = 0 ∧ b = 0) ∨ ∃ k, n = k + 1 ∧ k < 64 ∧ w.cell? ⟨p, 1 + k * 4 + 3, none⟩ = some (.int .i64 b))
theorem AtB.drewN {w : World} {p n : Nat} {b : Int} (h : AtB w p n b) (k : Nat) : AtB (w.drewN k) p n b := by
  unfold AtB at h ⊢
  simpa [go_sem] using h
theorem drawn_ex {w w' : World} (h : Drawn0 w w') : ∃ m, w' = w.drewN m := by
  obtain ⟨n, rfl⟩ := h
  exact ⟨n, rfl⟩
theorem frBase (p n : Nat) (b : Int) (w : World) (h : AtB w p n b) :
    Calls Try.prog 35 #[.pointer (some ⟨p, 0, none⟩)] w fun e w' => e = .returned (.int .i64 b) ∧ Drawn0 w w' := by
  obtain ⟨h1, ⟨rfl, rfl⟩ | ⟨k, rfl, hk, h2⟩⟩ := h
  · go_enter Try.func35, Try.ntmps35
    go_wp2_with (go_at_call 34; (with_reducible refine (frTop0 p _ h1).mono ?_); rintro e w' ⟨rfl, ⟨nd, rfl⟩⟩)
    go_ret
    exact ⟨rfl, drawn_n _ _⟩
  · go_enter Try.func35, Try.ntmps35
    go_wp2_with (go_at_call 34; (with_reducible refine (frTop p k _ hk h1).mono ?_); rintro e w' ⟨rfl, ⟨nd, rfl⟩⟩)
    go_ret
    exact ⟨rfl, drawn_n _ _⟩
theorem frBaseNil (w : World) : Calls Try.prog 35 #[.pointer none] w fun e w' => e = .returned (.int .i64 0) ∧ Drawn0 w w' := by
  go_enter Try.func35, Try.ntmps35
  go_wp2_with (go_at_call 34; (with_reducible refine (frTopNil _).mono ?_); rintro e w' ⟨rfl, ⟨nd, rfl⟩⟩)
  go_ret
  exact ⟨rfl, drawn_n _ _⟩
/-- Are there so many own values? -/
theorem frHas (p n : Nat) (b : Int) (A : Option Addr) (m c : Nat) (i : Int) (w : World) (hm : m ≤ 1000000000) (hb : 0 ≤ b ∧ b < 9223372036854775808) (h0 : w.cell? ⟨p, 0, none⟩ = some (.slice A m c)) (h : AtB w p n b) :
    Calls Try.prog 32 #[.pointer (some ⟨p, 0, none⟩), .int .i64 i] w fun e w' => e = .returned (.bool (decide (0 ≤ i ∧ i ≤ (m : Int) - b))) ∧ Drawn0 w w' := by
  have hw : IntKind.i64.wrap ((m : Int) - b) = (m : Int) - b := by rw [IntKind.wrap_i64]; omega
  have hc : ∀ nd, Calls Try.prog 35 #[.pointer (some ⟨p, 0, none⟩)] (w.drewN nd) fun e w' => e = .returned (.int .i64 b) ∧ ∃ m, w' = (w.drewN nd).drewN m := fun nd => (frBase p n b _ (h.drewN nd)).mono (fun e w' h => ⟨h.1, drawn_ex h.2⟩)
  by_cases c1 : 0 ≤ i
  · have d1 : decide (0 ≤ i) = true := decide_eq_true c1
    have d2 : decide (0 ≤ i ∧ i ≤ (m : Int) - b) = decide (i ≤ (m : Int) - b) := by simp [c1]
    rw [d2]
    clear d2 c1
    go_enter Try.func32, Try.ntmps32
    go_wp2
    go_quiet ((go_at_call 35; with_reducible exact Calls.quiet_of (hc _)))
    go_wp2
    go_ret
    exact ⟨rfl, drawn_n _ _⟩
  · have d1 : decide (0 ≤ i) = false := decide_eq_false c1
    have d2 : decide (0 ≤ i ∧ i ≤ (m : Int) - b) = false := by simp [c1]
    rw [d2]
    clear d2 c1
    go_enter Try.func32, Try.ntmps32
    go_wp2
    go_quiet (fail)
    go_wp2
    go_ret
    exact ⟨rfl, drawn_n _ _⟩
theorem frHasNil (i : Int) (w : World) : Calls Try.prog 32 #[.pointer none, .int .i64 i] w fun e w' => e = .returned (.bool false) ∧ Drawn0 w w' := by
  go_enter Try.func32, Try.ntmps32
  go_wp2
  go_quiet (fail)
  go_wp2
  go_ret
  exact ⟨rfl, drawn_n _ _⟩
theorem frDepth (p n : Nat) (w : World) (h : w.cell? ⟨p, 257, none⟩ = some (.int .i64 (n : Int))) :
    Calls Try.prog 13 #[.pointer (some ⟨p, 0, none⟩)] w fun e w' => e = .returned (.int .i64 (n : Int)) ∧ Drawn0 w w' := by
  go_enter Try.func13, Try.ntmps13
  go_wp2
  go_ret
  exact ⟨rfl, by repeat (first | exact Drawn0.refl _ | apply Drawn0.step)⟩
theorem frDepthNil (w : World) : Calls Try.prog 13 #[.pointer none] w fun e w' => e = .returned (.int .i64 0) ∧ Drawn0 w w' := by
  go_enter Try.func13, Try.ntmps13
  go_wp2
  go_ret
  exact ⟨rfl, by repeat (first | exact Drawn0.refl _ | apply Drawn0.step)⟩
end Go.Proofs.Ytbbgkelcdooabaa.G
