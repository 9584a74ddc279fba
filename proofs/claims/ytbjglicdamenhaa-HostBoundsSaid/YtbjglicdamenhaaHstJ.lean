/- Package host: with no memory and no globals. -/
import Derived.Deep.DeepMust
import Derived.Test.YtbjglicdamenhaaHstG
namespace Go.Proofs.Ytbjglicdamenhaa.G
open Go.RowKit Go.Proofs.YtbjglicdamenhaaW.PrintWords Go.Proofs.YtbjglicdamenhaaW.PrintLast Go.Proofs.YtbjglicdamenhaaW.PrintMore
attribute [local go_sem] max2_int min2_int max_two min_two max_three min_three max_four min_four   -- for this text's walks alone
set_option linter.unusedVariables false
set_option linter.unusedSimpArgs false
theorem memAllNil (w : World) : Calls Try.prog 43 #[.pointer none] w fun e w' => e = .returned (.slice none 0 0) ∧ Drawn0 w w' := by
  go_enter Try.func43, Try.ntmps43
  go_wp2
  go_ret
  exact ⟨rfl, Drawn0.refl _⟩
theorem memSumNil (w : World) : Calls Try.prog 22 #[.pointer none] w fun e w' => e = .returned (.int .u64 14695981039346656037) ∧ Drawn0 w w' := by
  have hD : Drawn0 w w := Drawn0.refl _
  go_enter Try.func22, Try.ntmps22
  go_wp2_with (go_at_call 43; refine (memAllNil _).mono ?_; rintro e w' ⟨rfl, ⟨nd, rfl⟩⟩)
  refine wp_loop_rounds 1 ?_
  rw [rounds_succ]
  go_wp2
  go_ret
  exact ⟨rfl, _, rfl⟩
theorem globAllNil (w : World) : Calls Try.prog 25 #[.pointer none] w fun e w' => e = .returned (.slice none 0 0) ∧ Drawn0 w w' := by
  go_enter Try.func25, Try.ntmps25
  go_wp2
  go_ret
  exact ⟨rfl, Drawn0.refl _⟩
theorem globFindNil (i : Int) (w : World) : Calls Try.prog 44 #[.pointer none, .int .i64 i] w fun e w' => e = .returned (.pointer none) ∧ Drawn0 w w' := by
  go_enter Try.func44, Try.ntmps44
  go_wp2
  go_ret
  exact ⟨rfl, Drawn0.refl _⟩
theorem globTypeNil (i : Int) (w : World) : Calls Try.prog 50 #[.pointer none, .int .i64 i] w fun e w' => e = .returned (.tuple #[.int .u8 0, .bool false, .bool false]) ∧ Drawn0 w w' := by
  go_enter Try.func50, Try.ntmps50
  go_wp2_with (go_at_call 44; refine (globFindNil _ _).mono ?_; rintro e w' ⟨rfl, ⟨nd, rfl⟩⟩)
  refine bodyPost_ret (v := .tuple #[.int .u8 0, .bool false, .bool false]) (by simp [results, Try.results50, go_sem, *]) rfl ?_
  exact ⟨rfl, _, rfl⟩
def nilFit (a : Int) (n : Nat) : Bool := decide (a ≤ 0) && decide (n = 0)
theorem memFitsNil (a : Int) (n : Nat) (hn : n ≤ 1000000) (ha : -9223372036854775808 ≤ a ∧ a < 9223372036854775808) (w : World) : Calls Try.prog 48 #[.pointer none, .int .u64 (max a 0), .int .u64 0, .int .i64 n] w fun e w' => e = .returned (.bool (nilFit a n)) ∧ Drawn0 w w' := by
  obtain ⟨m, hm⟩ : ∃ m, max a 0 = m := ⟨_, rfl⟩
  rw [hm]
  have hm0 : 0 ≤ m := by omega
  by_cases h1 : m ≤ 4294967295
  · have d1 : decide (m ≤ 4294967295) = true := decide_eq_true h1
    have d3 : decide (0 ≤ (n : Int)) = true := decide_eq_true (by omega)
    have d4 : decide ((n : Int) ≤ 4294967295) = true := decide_eq_true (by omega)
    have w1 : IntKind.u64.wrap (n : Int) = (n : Int) := by rw [IntKind.wrap_u64]; omega
    have w2 : IntKind.u64.wrap (m + 0) = m := by rw [IntKind.wrap_u64]; omega
    have w2' : IntKind.u64.wrap m = m := by rw [IntKind.wrap_u64]; omega
    have w3 : IntKind.u64.wrap (m + (n : Int)) = m + (n : Int) := by rw [IntKind.wrap_u64]; omega
    obtain ⟨r, hr⟩ : ∃ r, nilFit a n = r := ⟨_, rfl⟩
    have d5 : decide (m + (n : Int) ≤ 0) = r := by
      rw [← hr]
      unfold nilFit
      by_cases h2 : a ≤ 0
      · by_cases h3 : n = 0
        · rw [decide_eq_true h2, decide_eq_true h3, decide_eq_true (by omega)]; rfl
        · rw [decide_eq_true h2, decide_eq_false h3, decide_eq_false (by omega)]; rfl
      · rw [decide_eq_false h2, decide_eq_false (by omega)]; rfl
    rw [hr]
    clear hm hr ha
    go_enter Try.func48, Try.ntmps48
    go_wp2_with (go_at_call 43; refine (memAllNil _).mono ?_; rintro e w' ⟨rfl, ⟨nd, rfl⟩⟩)
    go_ret
    exact ⟨rfl, _, rfl⟩
  · have d1 : decide (m ≤ 4294967295) = false := decide_eq_false h1
    have hr : nilFit a n = false := by unfold nilFit; rw [decide_eq_false (by omega)]; rfl
    rw [hr]
    clear hm hr ha
    go_enter Try.func48, Try.ntmps48
    go_wp2
    go_ret
    exact ⟨rfl, Drawn0.refl _⟩
set_option maxRecDepth 100000 in
theorem memLayNil (a : Int) (A : Option Addr) (c : Nat) (ha : a ≤ 0) (w : World) : Calls Try.prog 29 #[.pointer none, .int .i64 a, .slice A 0 c] w fun e w' => (∃ v, e = .returned (.bool v)) ∧ Drawn0 w w' := by
  by_cases h0 : a < 0
  · have d0 : decide (a < 0) = true := decide_eq_true h0
    go_enter Try.func29, Try.ntmps29
    go_wp2_with (go_at_call 43; refine (memAllNil _).mono ?_; rintro e w' ⟨rfl, ⟨nd, rfl⟩⟩)
    go_ret
    exact ⟨⟨_, rfl⟩, _, rfl⟩
  · obtain rfl : a = 0 := by omega
    have hinfo : (Try.prog.info? 5).map (·.size) = some 1 := by kernel_rfl
    have hcp : ∀ W : World, (Builtin.copy_ #[35, 35] 3 #[.slice none 0 0, .slice A 0 c]).run Try.prog W = .ok (goInt 0) W := fun W => run_copy_none W 35 35 3 5 none A 0 0 0 c Try.underlying35 hinfo rfl
    go_enter Try.func29, Try.ntmps29
    go_wp2_with (go_at_call 43; refine (memAllNil _).mono ?_; rintro e w' ⟨rfl, ⟨nd, rfl⟩⟩)
    go_ret
    exact ⟨⟨_, rfl⟩, _, rfl⟩
/-- Nothing. -/
def Emp : As := Sep []
theorem SB.emp {w0 w : World} {L : List As} : SB w0 w (Emp :: L) ↔ SB w0 w L := SB.sep0
theorem envNilA (w0 : World) : EnvA w0 none none Emp 14695981039346656037 [] where
  sum := fun {w L} h => (memSumNil w).mono fun e w' hh => ⟨hh.1, h.below (drawn_below hh.2)⟩
  all := fun {w L} h => (globAllNil w).mono fun e w' hh => ⟨_, hh.1, SB.row (h.below (drawn_below hh.2)) (Below.refl _ _) (Kd.R_nil _ _ _ _ (fun _ => True))⟩
theorem envNilL (w0 : World) (x : S86) (hl : x.f3.length ≤ 1000000) (h2 : -9223372036854775808 ≤ x.f2 ∧ x.f2 < 9223372036854775808) : EnvL w0 none Emp Emp x (nilFit x.f2 x.f3.length) where
  fits := fun {w L} h => (memFitsNil x.f2 x.f3.length hl h2 w).mono fun e w' hh => ⟨hh.1, h.below (drawn_below hh.2)⟩
  lay := fun hr {w L A c} h hC hc => by
    unfold nilFit at hr
    simp only [Bool.and_eq_true, decide_eq_true_eq] at hr
    rw [hr.2]
    exact (memLayNil x.f2 A c hr.1 w).mono fun e w' hh => ⟨hh.1, h.below (drawn_below hh.2)⟩
  same := fun _ => rfl
theorem envNilS (w0 : World) (x : S86) : EnvS w0 none Emp Emp x 0 false false where
  type := fun {w L} h => (globTypeNil x.f4 w).mono fun e w' hh => ⟨hh.1, h.below (drawn_below hh.2)⟩
  set := fun h => by cases h
  same := fun _ => rfl
end Go.Proofs.Ytbjglicdamenhaa.G
