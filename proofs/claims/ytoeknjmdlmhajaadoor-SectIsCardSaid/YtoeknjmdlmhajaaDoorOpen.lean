-- Made by openers.py (mine): what a reading of each struct type opens to.
import Derived.Test.YtoeknjmdlmhajaaDoorRow
import Derived.Test.YtoeknjmdlmhajaaDoorG0
import Derived.Deep.Slices
namespace Go.Proofs.YtoeknjmdlmhajaaDoor.Own
open Go.ChangeShapes Go.WideShapes Go.RowKit Go.Deep Go.Proofs.YtoeknjmdlmhajaaDoorW.PrintWords Go.Proofs.YtoeknjmdlmhajaaDoor.G
set_option linter.unusedVariables false
theorem list_len2 {α : Type} {l : List α} (h : l.length = 2) : ∃ a0 a1, l = [a0, a1] := by
  cases l with
  | nil => simp at h
  | cons a0 l =>
  cases l with
  | nil => simp at h
  | cons a1 l =>
  cases l with
  | cons b l => simp at h
  | nil => exact ⟨a0, a1, rfl⟩
section
variable {H : Type} {enc : TypeId × Value → H} {w : World} {base : Nat} {held : Bool}
def wf36 (x : S36) : Prop := ((Lit.int .i64 x.f0).wf = true) ∧ ((x.f1.length ≤ maxLen ∧ ∀ z ∈ x.f1, (Lit.int .u8 z).wf = true))
theorem op_T36 {n : Nat} {cs : List Value} {y : DataW H × List MemPlace} (h : DataW.trod enc Tryd.prog w base (fun _ => true) held n 36 cs = some y) : ∃ x : S36, k36.K w x cs ∧ wf36 x := by
  obtain ⟨xs, m, _, _, hlen, hxs, hf⟩ := DataW.trod_struct Tryd.underlying36 h
  rw [show Tryd.prog.cellsOf 36 = 2 by kernel_rfl] at hlen
  obtain ⟨v0, v1, rfl⟩ := list_len2 hlen
  obtain ⟨y0, y1, rfl⟩ := list_len2 (l := xs) (by simpa using hxs)
  have h0 := hf 0 _ rfl
  replace h0 : DataW.trod enc Tryd.prog w base (fun _ => true) held m 3 [v0] = some y0 := by simpa [show Tryd.prog.cellsOf 3 = 1 by kernel_rfl] using h0
  obtain ⟨x0, e0, w0⟩ := int_of Tryd.underlying3 h0
  subst e0
  have h1 := hf 1 _ rfl
  replace h1 : DataW.trod enc Tryd.prog w base (fun _ => true) held m 25 [v1] = some y1 := by simpa [show Tryd.prog.cellsOf 25 = 1 by kernel_rfl] using h1
  obtain ⟨A1, c1, x1, e1, g1, l1, m1, w1⟩ := slice_of (d := (Kd.int .u8)) (Wf := fun z => (Lit.int .u8 z).wf = true) Tryd.underlying25 (by kernel_rfl) (by decide) (fun _ _ _ h => int_K Tryd.underlying5 h) h1
  subst e1
  exact ⟨⟨x0, x1⟩, (show k36.K w _ _ from by unfold k36; exact ⟨[.int .i64 x0], [.slice A1 x1.length c1], rfl, rfl, ⟨A1, c1, rfl, l1, g1⟩⟩), ⟨w0, ⟨m1, w1⟩⟩⟩
end
end Go.Proofs.YtoeknjmdlmhajaaDoor.Own
