-- Made by openers.py (mine): what a reading of each struct type opens to.
import Derived.Test.YtagblobimoedcaaRow
import Derived.Test.YtagblobimoedcaaG0
import Derived.Deep.Slices
namespace Go.Proofs.Ytagblobimoedcaa.Own
open Go.ChangeShapes Go.WideShapes Go.RowKit Go.Deep Go.Proofs.YtagblobimoedcaaW.PrintWords Go.Proofs.Ytagblobimoedcaa.G
set_option linter.unusedVariables false
theorem list_len3 {α : Type} {l : List α} (h : l.length = 3) : ∃ a0 a1 a2, l = [a0, a1, a2] := by
  cases l with
  | nil => simp at h
  | cons a0 l =>
  cases l with
  | nil => simp at h
  | cons a1 l =>
  cases l with
  | nil => simp at h
  | cons a2 l =>
  cases l with
  | cons b l => simp at h
  | nil => exact ⟨a0, a1, a2, rfl⟩
section
variable {H : Type} {enc : TypeId × Value → H} {w : World} {base : Nat} {held : Bool}
def wf47 (x : S47) : Prop := ((Lit.int .i64 x.f0).wf = true) ∧ ((Lit.int .i64 x.f1).wf = true) ∧ ((x.f2.length ≤ maxLen ∧ ∀ z ∈ x.f2, (Lit.int .u8 z).wf = true))
theorem op_T47 {n : Nat} {cs : List Value} {y : DataW H × List MemPlace} (h : DataW.trod enc Try.prog w base (fun _ => true) held n 47 cs = some y) : ∃ x : S47, k47.K w x cs ∧ wf47 x := by
  obtain ⟨xs, m, _, _, hlen, hxs, hf⟩ := DataW.trod_struct Try.underlying47 h
  rw [show Try.prog.cellsOf 47 = 3 by kernel_rfl] at hlen
  obtain ⟨v0, v1, v2, rfl⟩ := list_len3 hlen
  obtain ⟨y0, y1, y2, rfl⟩ := list_len3 (l := xs) (by simpa using hxs)
  have h0 := hf 0 _ rfl
  replace h0 : DataW.trod enc Try.prog w base (fun _ => true) held m 3 [v0] = some y0 := by simpa [show Try.prog.cellsOf 3 = 1 by kernel_rfl] using h0
  obtain ⟨x0, e0, w0⟩ := int_of Try.underlying3 h0
  subst e0
  have h1 := hf 1 _ rfl
  replace h1 : DataW.trod enc Try.prog w base (fun _ => true) held m 3 [v1] = some y1 := by simpa [show Try.prog.cellsOf 3 = 1 by kernel_rfl] using h1
  obtain ⟨x1, e1, w1⟩ := int_of Try.underlying3 h1
  subst e1
  have h2 := hf 2 _ rfl
  replace h2 : DataW.trod enc Try.prog w base (fun _ => true) held m 25 [v2] = some y2 := by simpa [show Try.prog.cellsOf 25 = 1 by kernel_rfl] using h2
  obtain ⟨A2, c2, x2, e2, g2, l2, m2, w2⟩ := slice_of (d := (Kd.int .u8)) (Wf := fun z => (Lit.int .u8 z).wf = true) Try.underlying25 (by kernel_rfl) (by decide) (fun _ _ _ h => int_K Try.underlying5 h) h2
  subst e2
  exact ⟨⟨x0, x1, x2⟩, (show k47.K w _ _ from by unfold k47; exact ⟨[.int .i64 x0], [.int .i64 x1, .slice A2 x2.length c2], rfl, rfl, ⟨[.int .i64 x1], [.slice A2 x2.length c2], rfl, rfl, ⟨A2, c2, rfl, l2, g2⟩⟩⟩), ⟨w0, w1, ⟨m2, w2⟩⟩⟩
end
end Go.Proofs.Ytagblobimoedcaa.Own
