-- Made by openers.py (mine): what a reading of each struct type opens to.
import Derived.Test.YtbjglicdamenhaaRow
import Derived.Test.YtbjglicdamenhaaG0
import Derived.Deep.Slices
namespace Go.Proofs.Ytbjglicdamenhaa.Own
open Go.ChangeShapes Go.WideShapes Go.RowKit Go.Deep Go.Proofs.YtbjglicdamenhaaW.PrintWords Go.Proofs.Ytbjglicdamenhaa.G
set_option linter.unusedVariables false
theorem list_len2 {α : Type} {l : List α} (h : l.length = 2) : ∃ a0 a1, l = [a0, a1] := by
  cases l with
  | nil => simp at h
  | cons a0 l =>
  cases l with
  | nil => simp at h
  | cons a1 l =>
  cases l with
  | cons b l => simp at h
  | nil => exact ⟨a0, a1, rfl⟩
theorem list_len3 {α : Type} {l : List α} (h : l.length = 3) : ∃ a0 a1 a2, l = [a0, a1, a2] := by
  cases l with
  | nil => simp at h
  | cons a0 l =>
  cases l with
  | nil => simp at h
  | cons a1 l =>
  cases l with
  | nil => simp at h
  | cons a2 l =>
  cases l with
  | cons b l => simp at h
  | nil => exact ⟨a0, a1, a2, rfl⟩
theorem list_len4 {α : Type} {l : List α} (h : l.length = 4) : ∃ a0 a1 a2 a3, l = [a0, a1, a2, a3] := by
  cases l with
  | nil => simp at h
  | cons a0 l =>
  cases l with
  | nil => simp at h
  | cons a1 l =>
  cases l with
  | nil => simp at h
  | cons a2 l =>
  cases l with
  | nil => simp at h
  | cons a3 l =>
  cases l with
  | cons b l => simp at h
  | nil => exact ⟨a0, a1, a2, a3, rfl⟩
theorem list_len6 {α : Type} {l : List α} (h : l.length = 6) : ∃ a0 a1 a2 a3 a4 a5, l = [a0, a1, a2, a3, a4, a5] := by
  cases l with
  | nil => simp at h
  | cons a0 l =>
  cases l with
  | nil => simp at h
  | cons a1 l =>
  cases l with
  | nil => simp at h
  | cons a2 l =>
  cases l with
  | nil => simp at h
  | cons a3 l =>
  cases l with
  | nil => simp at h
  | cons a4 l =>
  cases l with
  | nil => simp at h
  | cons a5 l =>
  cases l with
  | cons b l => simp at h
  | nil => exact ⟨a0, a1, a2, a3, a4, a5, rfl⟩
section
variable {H : Type} {enc : TypeId × Value → H} {w : World} {base : Nat} {held : Bool}
def wf82 (x : S82) : Prop := ((Lit.int .u64 x.f0).wf = true) ∧ (True) ∧ ((Lit.int .i64 x.f2).wf = true) ∧ ((x.f3.length ≤ maxLen ∧ ∀ z ∈ x.f3, (Lit.int .u8 z).wf = true)) ∧ ((Lit.int .i64 x.f4).wf = true) ∧ ((Lit.int .u64 x.f5).wf = true)
theorem op_T82 {n : Nat} {cs : List Value} {y : DataW H × List MemPlace} (h : DataW.trod enc Try.prog w base (fun _ => true) held n 82 cs = some y) : ∃ x : S82, k82.K w x cs ∧ wf82 x := by
  obtain ⟨xs, m, _, _, hlen, hxs, hf⟩ := DataW.trod_struct Try.underlying82 h
  rw [show Try.prog.cellsOf 82 = 6 by kernel_rfl] at hlen
  obtain ⟨v0, v1, v2, v3, v4, v5, rfl⟩ := list_len6 hlen
  obtain ⟨y0, y1, y2, y3, y4, y5, rfl⟩ := list_len6 (l := xs) (by simpa using hxs)
  have h0 := hf 0 _ rfl
  replace h0 : DataW.trod enc Try.prog w base (fun _ => true) held m 31 [v0] = some y0 := by simpa [show Try.prog.cellsOf 31 = 1 by kernel_rfl] using h0
  obtain ⟨x0, e0, w0⟩ := int_of Try.underlying31 h0
  subst e0
  have h1 := hf 1 _ rfl
  replace h1 : DataW.trod enc Try.prog w base (fun _ => true) held m 4 [v1] = some y1 := by simpa [show Try.prog.cellsOf 4 = 1 by kernel_rfl] using h1
  obtain ⟨x1, e1⟩ := bool_of Try.underlying4 h1
  subst e1
  have h2 := hf 2 _ rfl
  replace h2 : DataW.trod enc Try.prog w base (fun _ => true) held m 3 [v2] = some y2 := by simpa [show Try.prog.cellsOf 3 = 1 by kernel_rfl] using h2
  obtain ⟨x2, e2, w2⟩ := int_of Try.underlying3 h2
  subst e2
  have h3 := hf 3 _ rfl
  replace h3 : DataW.trod enc Try.prog w base (fun _ => true) held m 35 [v3] = some y3 := by simpa [show Try.prog.cellsOf 35 = 1 by kernel_rfl] using h3
  obtain ⟨A3, c3, x3, e3, g3, l3, m3, w3⟩ := slice_of (d := (Kd.int .u8)) (Wf := fun z => (Lit.int .u8 z).wf = true) Try.underlying35 (by kernel_rfl) (by decide) (fun _ _ _ h => int_K Try.underlying5 h) h3
  subst e3
  have h4 := hf 4 _ rfl
  replace h4 : DataW.trod enc Try.prog w base (fun _ => true) held m 3 [v4] = some y4 := by simpa [show Try.prog.cellsOf 3 = 1 by kernel_rfl] using h4
  obtain ⟨x4, e4, w4⟩ := int_of Try.underlying3 h4
  subst e4
  have h5 := hf 5 _ rfl
  replace h5 : DataW.trod enc Try.prog w base (fun _ => true) held m 31 [v5] = some y5 := by simpa [show Try.prog.cellsOf 31 = 1 by kernel_rfl] using h5
  obtain ⟨x5, e5, w5⟩ := int_of Try.underlying31 h5
  subst e5
  exact ⟨⟨x0, x1, x2, x3, x4, x5⟩, (show k82.K w _ _ from by unfold k82; exact ⟨[.int .u64 x0], [.bool x1, .int .i64 x2, .slice A3 x3.length c3, .int .i64 x4, .int .u64 x5], rfl, rfl, ⟨[.bool x1], [.int .i64 x2, .slice A3 x3.length c3, .int .i64 x4, .int .u64 x5], rfl, rfl, ⟨[.int .i64 x2], [.slice A3 x3.length c3, .int .i64 x4, .int .u64 x5], rfl, rfl, ⟨[.slice A3 x3.length c3], [.int .i64 x4, .int .u64 x5], rfl, ⟨A3, c3, rfl, l3, g3⟩, ⟨[.int .i64 x4], [.int .u64 x5], rfl, rfl, rfl⟩⟩⟩⟩⟩), ⟨w0, trivial, w2, ⟨m3, w3⟩, w4, w5⟩⟩
def wf37 (x : S37) : Prop := ((x.f0.length ≤ maxLen ∧ ∀ z ∈ x.f0, (Lit.int .u8 z).wf = true)) ∧ ((x.f1.length ≤ maxLen ∧ ∀ z ∈ x.f1, (Lit.int .u8 z).wf = true))
theorem op_T37 {n : Nat} {cs : List Value} {y : DataW H × List MemPlace} (h : DataW.trod enc Try.prog w base (fun _ => true) held n 37 cs = some y) : ∃ x : S37, k37.K w x cs ∧ wf37 x := by
  obtain ⟨xs, m, _, _, hlen, hxs, hf⟩ := DataW.trod_struct Try.underlying37 h
  rw [show Try.prog.cellsOf 37 = 2 by kernel_rfl] at hlen
  obtain ⟨v0, v1, rfl⟩ := list_len2 hlen
  obtain ⟨y0, y1, rfl⟩ := list_len2 (l := xs) (by simpa using hxs)
  have h0 := hf 0 _ rfl
  replace h0 : DataW.trod enc Try.prog w base (fun _ => true) held m 35 [v0] = some y0 := by simpa [show Try.prog.cellsOf 35 = 1 by kernel_rfl] using h0
  obtain ⟨A0, c0, x0, e0, g0, l0, m0, w0⟩ := slice_of (d := (Kd.int .u8)) (Wf := fun z => (Lit.int .u8 z).wf = true) Try.underlying35 (by kernel_rfl) (by decide) (fun _ _ _ h => int_K Try.underlying5 h) h0
  subst e0
  have h1 := hf 1 _ rfl
  replace h1 : DataW.trod enc Try.prog w base (fun _ => true) held m 35 [v1] = some y1 := by simpa [show Try.prog.cellsOf 35 = 1 by kernel_rfl] using h1
  obtain ⟨A1, c1, x1, e1, g1, l1, m1, w1⟩ := slice_of (d := (Kd.int .u8)) (Wf := fun z => (Lit.int .u8 z).wf = true) Try.underlying35 (by kernel_rfl) (by decide) (fun _ _ _ h => int_K Try.underlying5 h) h1
  subst e1
  exact ⟨⟨x0, x1⟩, (show k37.K w _ _ from by unfold k37; exact ⟨[.slice A0 x0.length c0], [.slice A1 x1.length c1], rfl, ⟨A0, c0, rfl, l0, g0⟩, ⟨A1, c1, rfl, l1, g1⟩⟩), ⟨⟨m0, w0⟩, ⟨m1, w1⟩⟩⟩
def wf40 (x : S40) : Prop := ((Lit.int .i64 x.f0).wf = true) ∧ (wf37 x.f1) ∧ ((x.f2.length ≤ maxLen ∧ ∀ z ∈ x.f2, (Lit.int .u64 z).wf = true))
theorem op_T40 {n : Nat} {cs : List Value} {y : DataW H × List MemPlace} (h : DataW.trod enc Try.prog w base (fun _ => true) held n 40 cs = some y) : ∃ x : S40, k40.K w x cs ∧ wf40 x := by
  obtain ⟨xs, m, _, _, hlen, hxs, hf⟩ := DataW.trod_struct Try.underlying40 h
  rw [show Try.prog.cellsOf 40 = 4 by kernel_rfl] at hlen
  obtain ⟨v0, v1, v2, v3, rfl⟩ := list_len4 hlen
  obtain ⟨y0, y1, y2, rfl⟩ := list_len3 (l := xs) (by simpa using hxs)
  have h0 := hf 0 _ rfl
  replace h0 : DataW.trod enc Try.prog w base (fun _ => true) held m 3 [v0] = some y0 := by simpa [show Try.prog.cellsOf 3 = 1 by kernel_rfl] using h0
  obtain ⟨x0, e0, w0⟩ := int_of Try.underlying3 h0
  subst e0
  have h1 := hf 1 _ rfl
  replace h1 : DataW.trod enc Try.prog w base (fun _ => true) held m 37 [v1, v2] = some y1 := by simpa [show Try.prog.cellsOf 37 = 2 by kernel_rfl] using h1
  obtain ⟨x1, K1, w1⟩ := op_T37 h1
  have h2 := hf 2 _ rfl
  replace h2 : DataW.trod enc Try.prog w base (fun _ => true) held m 38 [v3] = some y2 := by simpa [show Try.prog.cellsOf 38 = 1 by kernel_rfl] using h2
  obtain ⟨A2, c2, x2, e2, g2, l2, m2, w2⟩ := slice_of (d := (Kd.int .u64)) (Wf := fun z => (Lit.int .u64 z).wf = true) Try.underlying38 (by kernel_rfl) (by decide) (fun _ _ _ h => int_K Try.underlying31 h) h2
  subst e2
  exact ⟨⟨x0, x1, x2⟩, (show k40.K w _ _ from by unfold k40; exact ⟨[.int .i64 x0], [v1, v2, .slice A2 x2.length c2], rfl, rfl, ⟨[v1, v2], [.slice A2 x2.length c2], rfl, K1, ⟨A2, c2, rfl, l2, g2⟩⟩⟩), ⟨w0, w1, ⟨m2, w2⟩⟩⟩
end
end Go.Proofs.Ytbjglicdamenhaa.Own
