/- What any operator takes and gives. -/
import Derived.Test.YtjonlcnmpejamaaDoorG10
import Derived.Test.YtjonlcnmpejamaaDoorIntsP
namespace Go.Proofs.YtjonlcnmpejamaaDoor.Pure
open Go.RowKit Go.Proofs.YtjonlcnmpejamaaDoor.G Go.Proofs.YtjonlcnmpejamaaDoorW.PrintWords Go.Proofs.YtjonlcnmpejamaaDoorW.PrintLast
set_option maxRecDepth 100000 in
theorem shape_fin : ∀ i : Fin 105, ints_Shape.f (69 + (i.val : Int)) = avocetref02_Shape.f 6 (69 + (i.val : Int)) ∧ (ints_Shape.f (69 + (i.val : Int))).isSome = true := by decide +kernel
theorem shape_same (op : Int) : ∃ r, ints_Shape.f op = some r ∧ avocetref02_Shape.f 6 op = some r := by
  by_cases h : 69 ≤ op ∧ op ≤ 173
  · obtain ⟨h1, h2⟩ := shape_fin ⟨(op - 69).toNat, by omega⟩
    have e : (69 : Int) + ((op - 69).toNat : Int) = op := by omega
    simp only [e] at h1 h2
    obtain ⟨r, hr⟩ := Option.isSome_iff_exists.1 h2
    exact ⟨r, hr, by rw [← h1, hr]⟩
  · refine ⟨([], 0, false), ?_, ?_⟩
    · unfold ints_Shape.f
      have W : ∀ f t, 69 ≤ f → t ≤ 173 → ints_within.f op f t = some false := fun f t h1 h2 => by
        unfold ints_within.f
        split
        · rw [decide_eq_false (by omega)]
        · rfl
      rw [if_neg (by omega), if_neg (by omega), W 70 79 (by omega) (by omega), Option.bind_some, if_neg (by decide), W 81 90 (by omega) (by omega), Option.bind_some, if_neg (by decide), W 103 105 (by omega) (by omega), Option.bind_some, if_neg (by decide), W 106 120 (by omega) (by omega), Option.bind_some, if_neg (by decide), W 121 123 (by omega) (by omega), Option.bind_some, if_neg (by decide), W 124 138 (by omega) (by omega), Option.bind_some, if_neg (by decide), if_neg (by omega), if_neg (by omega), if_neg (by omega)]
    · have K : avocetref02_kind.f 6 op = some (-1, 0) := by
        unfold avocetref02_kind.f
        by_cases c : op ≥ 69
        · rw [if_pos c, decide_eq_false (by omega)]
          show avocetref02_kind.j0 (5 + 1) op false = _
          simp only [avocetref02_kind.j0]
          rw [if_neg (by decide), if_pos (by omega), decide_eq_false (by omega)]
          show avocetref02_kind.j1 (4 + 1) op false = _
          simp only [avocetref02_kind.j1]
          rw [if_neg (by decide), if_pos (by omega), decide_eq_false (by omega)]
          show avocetref02_kind.j2 (3 + 1) op false = _
          simp only [avocetref02_kind.j2]
          rw [if_neg (by decide), if_pos (by omega), if_neg (by omega)]
        · rw [if_neg c]
          show avocetref02_kind.j0 (5 + 1) op false = _
          simp only [avocetref02_kind.j0]
          rw [if_neg (by decide), if_neg (by omega)]
          show avocetref02_kind.j1 (4 + 1) op false = _
          simp only [avocetref02_kind.j1]
          rw [if_neg (by decide), if_neg (by omega)]
          show avocetref02_kind.j2 (3 + 1) op false = _
          simp only [avocetref02_kind.j2]
          rw [if_neg (by decide), if_neg (by omega)]
      unfold avocetref02_Shape.f
      rw [K, Option.bind_some, if_neg (by omega), if_neg (by omega), beq_eq_false_iff_ne.mpr (by omega)]
      show avocetref02_Shape.j0 (5 + 1) (-1) 0 false = _
      simp only [avocetref02_Shape.j0]
      rfl
theorem IntsShape : avocetlaw02_IntsShape.Pure := by
  intro op hop
  refine ⟨6, ?_⟩
  obtain ⟨r, h1, h2⟩ := shape_same op
  unfold avocetlaw02_IntsShape.f
  rw [awake_yes 5, Option.bind_some, h1, Option.bind_some, h2, Option.bind_some, if_pos rfl, if_pos rfl, if_pos rfl]
  simp
end Go.Proofs.YtjonlcnmpejamaaDoor.Pure
