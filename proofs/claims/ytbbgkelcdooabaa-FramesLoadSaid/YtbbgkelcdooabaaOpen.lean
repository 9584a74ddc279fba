-- Made by openers.py (mine): what a reading of each struct type opens to.
import Derived.Test.YtbbgkelcdooabaaRow
import Derived.Test.YtbbgkelcdooabaaG0
import Derived.Deep.Slices
namespace Go.Proofs.Ytbbgkelcdooabaa.Own
open Go.ChangeShapes Go.WideShapes Go.RowKit Go.Deep Go.Proofs.YtbbgkelcdooabaaW.PrintWords Go.Proofs.Ytbbgkelcdooabaa.G
set_option linter.unusedVariables false
theorem list_len4 {α : Type} {l : List α} (h : l.length = 4) : ∃ a0 a1 a2 a3, l = [a0, a1, a2, a3] := by
  cases l with
  | nil => simp at h
  | cons a0 l =>
  cases l with
  | nil => simp at h
  | cons a1 l =>
  cases l with
  | nil => simp at h
  | cons a2 l =>
  cases l with
  | nil => simp at h
  | cons a3 l =>
  cases l with
  | cons b l => simp at h
  | nil => exact ⟨a0, a1, a2, a3, rfl⟩
theorem list_len7 {α : Type} {l : List α} (h : l.length = 7) : ∃ a0 a1 a2 a3 a4 a5 a6, l = [a0, a1, a2, a3, a4, a5, a6] := by
  cases l with
  | nil => simp at h
  | cons a0 l =>
  cases l with
  | nil => simp at h
  | cons a1 l =>
  cases l with
  | nil => simp at h
  | cons a2 l =>
  cases l with
  | nil => simp at h
  | cons a3 l =>
  cases l with
  | nil => simp at h
  | cons a4 l =>
  cases l with
  | nil => simp at h
  | cons a5 l =>
  cases l with
  | nil => simp at h
  | cons a6 l =>
  cases l with
  | cons b l => simp at h
  | nil => exact ⟨a0, a1, a2, a3, a4, a5, a6, rfl⟩
section
variable {H : Type} {enc : TypeId × Value → H} {w : World} {base : Nat} {held : Bool}
def wf44 (x : S44) : Prop := ((Lit.int .i64 x.f0).wf = true) ∧ ((Lit.int .i64 x.f1).wf = true) ∧ ((Lit.int .i64 x.f2).wf = true) ∧ ((Lit.int .i64 x.f3).wf = true) ∧ ((Lit.int .i64 x.f4).wf = true) ∧ ((Lit.int .u64 x.f5).wf = true) ∧ ((x.f6.length ≤ maxLen ∧ ∀ z ∈ x.f6, (Lit.int .u64 z).wf = true))
theorem op_T44 {n : Nat} {cs : List Value} {y : DataW H × List MemPlace} (h : DataW.trod enc Try.prog w base (fun _ => true) held n 44 cs = some y) : ∃ x : S44, k44.K w x cs ∧ wf44 x := by
  obtain ⟨xs, m, _, _, hlen, hxs, hf⟩ := DataW.trod_struct Try.underlying44 h
  rw [show Try.prog.cellsOf 44 = 7 by kernel_rfl] at hlen
  obtain ⟨v0, v1, v2, v3, v4, v5, v6, rfl⟩ := list_len7 hlen
  obtain ⟨y0, y1, y2, y3, y4, y5, y6, rfl⟩ := list_len7 (l := xs) (by simpa using hxs)
  have h0 := hf 0 _ rfl
  replace h0 : DataW.trod enc Try.prog w base (fun _ => true) held m 3 [v0] = some y0 := by simpa [show Try.prog.cellsOf 3 = 1 by kernel_rfl] using h0
  obtain ⟨x0, e0, w0⟩ := int_of Try.underlying3 h0
  subst e0
  have h1 := hf 1 _ rfl
  replace h1 : DataW.trod enc Try.prog w base (fun _ => true) held m 3 [v1] = some y1 := by simpa [show Try.prog.cellsOf 3 = 1 by kernel_rfl] using h1
  obtain ⟨x1, e1, w1⟩ := int_of Try.underlying3 h1
  subst e1
  have h2 := hf 2 _ rfl
  replace h2 : DataW.trod enc Try.prog w base (fun _ => true) held m 3 [v2] = some y2 := by simpa [show Try.prog.cellsOf 3 = 1 by kernel_rfl] using h2
  obtain ⟨x2, e2, w2⟩ := int_of Try.underlying3 h2
  subst e2
  have h3 := hf 3 _ rfl
  replace h3 : DataW.trod enc Try.prog w base (fun _ => true) held m 3 [v3] = some y3 := by simpa [show Try.prog.cellsOf 3 = 1 by kernel_rfl] using h3
  obtain ⟨x3, e3, w3⟩ := int_of Try.underlying3 h3
  subst e3
  have h4 := hf 4 _ rfl
  replace h4 : DataW.trod enc Try.prog w base (fun _ => true) held m 3 [v4] = some y4 := by simpa [show Try.prog.cellsOf 3 = 1 by kernel_rfl] using h4
  obtain ⟨x4, e4, w4⟩ := int_of Try.underlying3 h4
  subst e4
  have h5 := hf 5 _ rfl
  replace h5 : DataW.trod enc Try.prog w base (fun _ => true) held m 35 [v5] = some y5 := by simpa [show Try.prog.cellsOf 35 = 1 by kernel_rfl] using h5
  obtain ⟨x5, e5, w5⟩ := int_of Try.underlying35 h5
  subst e5
  have h6 := hf 6 _ rfl
  replace h6 : DataW.trod enc Try.prog w base (fun _ => true) held m 22 [v6] = some y6 := by simpa [show Try.prog.cellsOf 22 = 1 by kernel_rfl] using h6
  obtain ⟨A6, c6, x6, e6, g6, l6, m6, w6⟩ := slice_of (d := (Kd.int .u64)) (Wf := fun z => (Lit.int .u64 z).wf = true) Try.underlying22 (by kernel_rfl) (by decide) (fun _ _ _ h => int_K Try.underlying35 h) h6
  subst e6
  exact ⟨⟨x0, x1, x2, x3, x4, x5, x6⟩, (show k44.K w _ _ from by unfold k44; exact ⟨[.int .i64 x0], [.int .i64 x1, .int .i64 x2, .int .i64 x3, .int .i64 x4, .int .u64 x5, .slice A6 x6.length c6], rfl, rfl, ⟨[.int .i64 x1], [.int .i64 x2, .int .i64 x3, .int .i64 x4, .int .u64 x5, .slice A6 x6.length c6], rfl, rfl, ⟨[.int .i64 x2], [.int .i64 x3, .int .i64 x4, .int .u64 x5, .slice A6 x6.length c6], rfl, rfl, ⟨[.int .i64 x3], [.int .i64 x4, .int .u64 x5, .slice A6 x6.length c6], rfl, rfl, ⟨[.int .i64 x4], [.int .u64 x5, .slice A6 x6.length c6], rfl, rfl, ⟨[.int .u64 x5], [.slice A6 x6.length c6], rfl, rfl, ⟨A6, c6, rfl, l6, g6⟩⟩⟩⟩⟩⟩⟩), ⟨w0, w1, w2, w3, w4, w5, ⟨m6, w6⟩⟩⟩
def wf61 (x : S61) : Prop := ((Lit.int .i64 x.f0).wf = true) ∧ ((Lit.int .i64 x.f1).wf = true) ∧ ((x.f2.length ≤ maxLen ∧ ∀ z ∈ x.f2, (Lit.int .u64 z).wf = true)) ∧ ((Lit.int .i64 x.f3).wf = true)
theorem op_T61 {n : Nat} {cs : List Value} {y : DataW H × List MemPlace} (h : DataW.trod enc Try.prog w base (fun _ => true) held n 61 cs = some y) : ∃ x : S61, k61.K w x cs ∧ wf61 x := by
  obtain ⟨xs, m, _, _, hlen, hxs, hf⟩ := DataW.trod_struct Try.underlying61 h
  rw [show Try.prog.cellsOf 61 = 4 by kernel_rfl] at hlen
  obtain ⟨v0, v1, v2, v3, rfl⟩ := list_len4 hlen
  obtain ⟨y0, y1, y2, y3, rfl⟩ := list_len4 (l := xs) (by simpa using hxs)
  have h0 := hf 0 _ rfl
  replace h0 : DataW.trod enc Try.prog w base (fun _ => true) held m 3 [v0] = some y0 := by simpa [show Try.prog.cellsOf 3 = 1 by kernel_rfl] using h0
  obtain ⟨x0, e0, w0⟩ := int_of Try.underlying3 h0
  subst e0
  have h1 := hf 1 _ rfl
  replace h1 : DataW.trod enc Try.prog w base (fun _ => true) held m 3 [v1] = some y1 := by simpa [show Try.prog.cellsOf 3 = 1 by kernel_rfl] using h1
  obtain ⟨x1, e1, w1⟩ := int_of Try.underlying3 h1
  subst e1
  have h2 := hf 2 _ rfl
  replace h2 : DataW.trod enc Try.prog w base (fun _ => true) held m 22 [v2] = some y2 := by simpa [show Try.prog.cellsOf 22 = 1 by kernel_rfl] using h2
  obtain ⟨A2, c2, x2, e2, g2, l2, m2, w2⟩ := slice_of (d := (Kd.int .u64)) (Wf := fun z => (Lit.int .u64 z).wf = true) Try.underlying22 (by kernel_rfl) (by decide) (fun _ _ _ h => int_K Try.underlying35 h) h2
  subst e2
  have h3 := hf 3 _ rfl
  replace h3 : DataW.trod enc Try.prog w base (fun _ => true) held m 3 [v3] = some y3 := by simpa [show Try.prog.cellsOf 3 = 1 by kernel_rfl] using h3
  obtain ⟨x3, e3, w3⟩ := int_of Try.underlying3 h3
  subst e3
  exact ⟨⟨x0, x1, x2, x3⟩, (show k61.K w _ _ from by unfold k61; exact ⟨[.int .i64 x0], [.int .i64 x1, .slice A2 x2.length c2, .int .i64 x3], rfl, rfl, ⟨[.int .i64 x1], [.slice A2 x2.length c2, .int .i64 x3], rfl, rfl, ⟨[.slice A2 x2.length c2], [.int .i64 x3], rfl, ⟨A2, c2, rfl, l2, g2⟩, rfl⟩⟩⟩), ⟨w0, w1, ⟨m2, w2⟩, w3⟩⟩
end
end Go.Proofs.Ytbbgkelcdooabaa.Own
