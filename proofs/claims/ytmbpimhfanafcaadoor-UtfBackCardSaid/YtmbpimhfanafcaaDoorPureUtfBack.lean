/- For every row of bytes and every row of numbers: what Runes tells, FromRunes lays again; what FromRunes lays, Runes tells. -/
import Derived.Test.YtmbpimhfanafcaaDoorUtfF
import Derived.Test.YtmbpimhfanafcaaDoorG3
namespace Go.Proofs.YtmbpimhfanafcaaDoor.Pure
open Go.RowKit Go.Proofs.YtmbpimhfanafcaaDoor.G Go.Proofs.YtmbpimhfanafcaaDoorW.PrintWords Go.Proofs.YtmbpimhfanafcaaDoorW.PrintLast
set_option linter.unusedVariables false
theorem back_j1 (l : List Int) (hl : l.length ≤ 200) : avocetlaw03_UtfBack.j1 1001 l true false = some true := by
  show avocetlaw03_UtfBack.j1 (1000 + 1) l true false = _
  simp only [avocetlaw03_UtfBack.j1]
  rw [if_neg (by decide), from_eq l (by omega) 1000 (by omega)]
  simp only [Option.bind_some]
  by_cases h : l.all okr = true
  · have hk := okl_all.2 h
    have h4 := flat_le l
    rw [if_pos h]
    simp only
    rw [runes_yes hk (by omega)]
    simp only [Option.bind_some, if_true]
    rw [Ints_eq l (by omega) 1000 (by omega)]
    simp only [Option.bind_some, if_true]
    rw [Valid_eq (flat_byte hk), valid8_flat hk]
    rfl
  · rw [if_neg h]
    simp only
    rw [show ([] : List Int) = flat [] from rfl, runes_yes okl_nil (by rw [flat_nil]; decide)]
    simp
theorem UtfBack : avocetlaw03_UtfBack.Pure := by
  intro a l ha1 ha2 ha3 hb1 hb2 hb3
  have wa := bytes_wf ha3
  refine ⟨1002, ?_⟩
  unfold avocetlaw03_UtfBack.f
  rw [awake_yes]
  simp only [Option.bind_some]
  by_cases c1 : (a.length : Int) > 500
  · rw [if_pos c1]
    show avocetlaw03_UtfBack.j0 (1001 + 1) a l true true = _
    simp only [avocetlaw03_UtfBack.j0, if_true]
  rw [if_neg c1]
  by_cases c2 : (l.length : Int) > 200
  · rw [decide_eq_true c2]
    show avocetlaw03_UtfBack.j0 (1001 + 1) a l true true = _
    simp only [avocetlaw03_UtfBack.j0, if_true]
  rw [decide_eq_false c2]
  show avocetlaw03_UtfBack.j0 (1001 + 1) a l true false = _
  simp only [avocetlaw03_UtfBack.j0]
  rw [if_neg (by decide)]
  rcases runes_any wa (by omega) with ⟨ra, ka, rfl, ea⟩ | ⟨va, ea⟩
  · have h1 := le_flat ra
    rw [ea]
    simp only [Option.bind_some]
    rw [from_yes ka (by omega) 1001 (by omega)]
    simp only [Option.bind_some, if_true]
    rw [Valid_eq (flat_byte ka), valid8_flat ka]
    exact back_j1 l (by omega)
  · rw [ea]
    simp only [Option.bind_some]
    rw [from_eq [] (by decide) 1001 (by decide)]
    simp only [Option.bind_some, Bool.false_eq_true, if_false]
    rw [Valid_eq wa, va]
    exact back_j1 l (by omega)
end Go.Proofs.YtmbpimhfanafcaaDoor.Pure
