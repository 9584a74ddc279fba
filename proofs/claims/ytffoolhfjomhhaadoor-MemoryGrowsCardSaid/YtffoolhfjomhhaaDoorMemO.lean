/- A memory as an object: what its variable and its bytes hold. -/
import Derived.Test.YtffoolhfjomhhaaDoorHold
import Derived.Test.YtffoolhfjomhhaaDoorMemP
namespace Go.Proofs.YtffoolhfjomhhaaDoor.G
open Go.RowKit Go.Proofs.YtffoolhfjomhhaaDoorW.PrintWords Go.Proofs.YtffoolhfjomhhaaDoorW.PrintLast Go.Proofs.YtffoolhfjomhhaaDoorW.PrintMore
set_option linter.unusedVariables false
/-- A memory: its bytes, its limits. -/
structure Mem where
  b : List Int
  lo : Int
  hi : Int
  has : Bool
/-- A variable of four cells, the first of which is a row of the call's own. -/
def ObR {α : Type} (d : Kd α) (e t p : Nat) (xs : List α) (rest : List Value) : As where
  P w F := ∃ v, w.heap[p]? = some (.cells (v :: rest).toArray t (0, 0)) ∧ d.R e w 0 (fun k => F k ∧ k ≠ p) v xs ∧ F p ∧ ∀ k, F k → k < w.heap.size
  lt h := by obtain ⟨v, _, _, _, h⟩ := h; exact h
  mv {w w1 F} h hm := by
    obtain ⟨v, hb, hr, hp, hl⟩ := h
    refine ⟨v, (hm p hp).trans hb, Kd.R_move hr (fun k hk => hm k hk.1), hp, fun k hk => ?_⟩
    have h1 := hl k hk
    have h2 := hm k hk
    rw [Array.getElem?_eq_getElem h1] at h2
    exact (Array.getElem?_eq_some_iff.1 h2).1
end Go.Proofs.YtffoolhfjomhhaaDoor.G
