-- Made by openers.py (mine): what a reading of each struct type opens to.
import Derived.Test.YtffoolhfjomhhaaDoorRow
import Derived.Test.YtffoolhfjomhhaaDoorG0
import Derived.Deep.Slices
namespace Go.Proofs.YtffoolhfjomhhaaDoor.Own
open Go.ChangeShapes Go.WideShapes Go.RowKit Go.Deep Go.Proofs.YtffoolhfjomhhaaDoorW.PrintWords Go.Proofs.YtffoolhfjomhhaaDoor.G
set_option linter.unusedVariables false
theorem list_len8 {α : Type} {l : List α} (h : l.length = 8) : ∃ a0 a1 a2 a3 a4 a5 a6 a7, l = [a0, a1, a2, a3, a4, a5, a6, a7] := by
  cases l with
  | nil => simp at h
  | cons a0 l =>
  cases l with
  | nil => simp at h
  | cons a1 l =>
  cases l with
  | nil => simp at h
  | cons a2 l =>
  cases l with
  | nil => simp at h
  | cons a3 l =>
  cases l with
  | nil => simp at h
  | cons a4 l =>
  cases l with
  | nil => simp at h
  | cons a5 l =>
  cases l with
  | nil => simp at h
  | cons a6 l =>
  cases l with
  | nil => simp at h
  | cons a7 l =>
  cases l with
  | cons b l => simp at h
  | nil => exact ⟨a0, a1, a2, a3, a4, a5, a6, a7, rfl⟩
section
variable {H : Type} {enc : TypeId × Value → H} {w : World} {base : Nat} {held : Bool}
def wf57 (x : S57) : Prop := ((Lit.int .i64 x.f0).wf = true) ∧ ((Lit.int .i64 x.f1).wf = true) ∧ ((Lit.int .u64 x.f2).wf = true) ∧ ((Lit.int .u64 x.f3).wf = true) ∧ ((Lit.int .u64 x.f4).wf = true) ∧ ((Lit.int .i64 x.f5).wf = true) ∧ ((Lit.int .i64 x.f6).wf = true) ∧ ((x.f7.length ≤ maxLen ∧ ∀ z ∈ x.f7, (Lit.int .u8 z).wf = true))
theorem op_T57 {n : Nat} {cs : List Value} {y : DataW H × List MemPlace} (h : DataW.trod enc Tryd.prog w base (fun _ => true) held n 57 cs = some y) : ∃ x : S57, k57.K w x cs ∧ wf57 x := by
  obtain ⟨xs, m, _, _, hlen, hxs, hf⟩ := DataW.trod_struct Tryd.underlying57 h
  rw [show Tryd.prog.cellsOf 57 = 8 by kernel_rfl] at hlen
  obtain ⟨v0, v1, v2, v3, v4, v5, v6, v7, rfl⟩ := list_len8 hlen
  obtain ⟨y0, y1, y2, y3, y4, y5, y6, y7, rfl⟩ := list_len8 (l := xs) (by simpa using hxs)
  have h0 := hf 0 _ rfl
  replace h0 : DataW.trod enc Tryd.prog w base (fun _ => true) held m 3 [v0] = some y0 := by simpa [show Tryd.prog.cellsOf 3 = 1 by kernel_rfl] using h0
  obtain ⟨x0, e0, w0⟩ := int_of Tryd.underlying3 h0
  subst e0
  have h1 := hf 1 _ rfl
  replace h1 : DataW.trod enc Tryd.prog w base (fun _ => true) held m 3 [v1] = some y1 := by simpa [show Tryd.prog.cellsOf 3 = 1 by kernel_rfl] using h1
  obtain ⟨x1, e1, w1⟩ := int_of Tryd.underlying3 h1
  subst e1
  have h2 := hf 2 _ rfl
  replace h2 : DataW.trod enc Tryd.prog w base (fun _ => true) held m 22 [v2] = some y2 := by simpa [show Tryd.prog.cellsOf 22 = 1 by kernel_rfl] using h2
  obtain ⟨x2, e2, w2⟩ := int_of Tryd.underlying22 h2
  subst e2
  have h3 := hf 3 _ rfl
  replace h3 : DataW.trod enc Tryd.prog w base (fun _ => true) held m 22 [v3] = some y3 := by simpa [show Tryd.prog.cellsOf 22 = 1 by kernel_rfl] using h3
  obtain ⟨x3, e3, w3⟩ := int_of Tryd.underlying22 h3
  subst e3
  have h4 := hf 4 _ rfl
  replace h4 : DataW.trod enc Tryd.prog w base (fun _ => true) held m 22 [v4] = some y4 := by simpa [show Tryd.prog.cellsOf 22 = 1 by kernel_rfl] using h4
  obtain ⟨x4, e4, w4⟩ := int_of Tryd.underlying22 h4
  subst e4
  have h5 := hf 5 _ rfl
  replace h5 : DataW.trod enc Tryd.prog w base (fun _ => true) held m 3 [v5] = some y5 := by simpa [show Tryd.prog.cellsOf 3 = 1 by kernel_rfl] using h5
  obtain ⟨x5, e5, w5⟩ := int_of Tryd.underlying3 h5
  subst e5
  have h6 := hf 6 _ rfl
  replace h6 : DataW.trod enc Tryd.prog w base (fun _ => true) held m 3 [v6] = some y6 := by simpa [show Tryd.prog.cellsOf 3 = 1 by kernel_rfl] using h6
  obtain ⟨x6, e6, w6⟩ := int_of Tryd.underlying3 h6
  subst e6
  have h7 := hf 7 _ rfl
  replace h7 : DataW.trod enc Tryd.prog w base (fun _ => true) held m 39 [v7] = some y7 := by simpa [show Tryd.prog.cellsOf 39 = 1 by kernel_rfl] using h7
  obtain ⟨A7, c7, x7, e7, g7, l7, m7, w7⟩ := slice_of (d := (Kd.int .u8)) (Wf := fun z => (Lit.int .u8 z).wf = true) Tryd.underlying39 (by kernel_rfl) (by decide) (fun _ _ _ h => int_K Tryd.underlying5 h) h7
  subst e7
  exact ⟨⟨x0, x1, x2, x3, x4, x5, x6, x7⟩, (show k57.K w _ _ from by unfold k57; exact ⟨[.int .i64 x0], [.int .i64 x1, .int .u64 x2, .int .u64 x3, .int .u64 x4, .int .i64 x5, .int .i64 x6, .slice A7 x7.length c7], rfl, rfl, ⟨[.int .i64 x1], [.int .u64 x2, .int .u64 x3, .int .u64 x4, .int .i64 x5, .int .i64 x6, .slice A7 x7.length c7], rfl, rfl, ⟨[.int .u64 x2], [.int .u64 x3, .int .u64 x4, .int .i64 x5, .int .i64 x6, .slice A7 x7.length c7], rfl, rfl, ⟨[.int .u64 x3], [.int .u64 x4, .int .i64 x5, .int .i64 x6, .slice A7 x7.length c7], rfl, rfl, ⟨[.int .u64 x4], [.int .i64 x5, .int .i64 x6, .slice A7 x7.length c7], rfl, rfl, ⟨[.int .i64 x5], [.int .i64 x6, .slice A7 x7.length c7], rfl, rfl, ⟨[.int .i64 x6], [.slice A7 x7.length c7], rfl, rfl, ⟨A7, c7, rfl, l7, g7⟩⟩⟩⟩⟩⟩⟩⟩), ⟨w0, w1, w2, w3, w4, w5, w6, ⟨m7, w7⟩⟩⟩
end
end Go.Proofs.YtffoolhfjomhhaaDoor.Own
