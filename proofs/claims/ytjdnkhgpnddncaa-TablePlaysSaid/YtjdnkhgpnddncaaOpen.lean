-- Made by openers.py (mine): what a reading of each struct type opens to.
import Derived.Test.YtjdnkhgpnddncaaRow
import Derived.Test.YtjdnkhgpnddncaaG0
import Derived.Deep.Slices
namespace Go.Proofs.Ytjdnkhgpnddncaa.Own
open Go.ChangeShapes Go.WideShapes Go.RowKit Go.Deep Go.Proofs.YtjdnkhgpnddncaaW.PrintWords Go.Proofs.Ytjdnkhgpnddncaa.G
set_option linter.unusedVariables false
theorem list_len6 {α : Type} {l : List α} (h : l.length = 6) : ∃ a0 a1 a2 a3 a4 a5, l = [a0, a1, a2, a3, a4, a5] := by
  cases l with
  | nil => simp at h
  | cons a0 l =>
  cases l with
  | nil => simp at h
  | cons a1 l =>
  cases l with
  | nil => simp at h
  | cons a2 l =>
  cases l with
  | nil => simp at h
  | cons a3 l =>
  cases l with
  | nil => simp at h
  | cons a4 l =>
  cases l with
  | nil => simp at h
  | cons a5 l =>
  cases l with
  | cons b l => simp at h
  | nil => exact ⟨a0, a1, a2, a3, a4, a5, rfl⟩
section
variable {H : Type} {enc : TypeId × Value → H} {w : World} {base : Nat} {held : Bool}
def wf40 (x : S40) : Prop := ((Lit.int .i64 x.f0).wf = true) ∧ ((Lit.int .i64 x.f1).wf = true) ∧ ((Lit.int .u64 x.f2).wf = true) ∧ ((Lit.int .u8 x.f3).wf = true) ∧ (True) ∧ ((x.f5.length ≤ maxLen ∧ ∀ z ∈ x.f5, (Lit.int .i64 z).wf = true))
theorem op_T40 {n : Nat} {cs : List Value} {y : DataW H × List MemPlace} (h : DataW.trod enc Try.prog w base (fun _ => true) held n 40 cs = some y) : ∃ x : S40, k40.K w x cs ∧ wf40 x := by
  obtain ⟨xs, m, _, _, hlen, hxs, hf⟩ := DataW.trod_struct Try.underlying40 h
  rw [show Try.prog.cellsOf 40 = 6 by kernel_rfl] at hlen
  obtain ⟨v0, v1, v2, v3, v4, v5, rfl⟩ := list_len6 hlen
  obtain ⟨y0, y1, y2, y3, y4, y5, rfl⟩ := list_len6 (l := xs) (by simpa using hxs)
  have h0 := hf 0 _ rfl
  replace h0 : DataW.trod enc Try.prog w base (fun _ => true) held m 3 [v0] = some y0 := by simpa [show Try.prog.cellsOf 3 = 1 by kernel_rfl] using h0
  obtain ⟨x0, e0, w0⟩ := int_of Try.underlying3 h0
  subst e0
  have h1 := hf 1 _ rfl
  replace h1 : DataW.trod enc Try.prog w base (fun _ => true) held m 3 [v1] = some y1 := by simpa [show Try.prog.cellsOf 3 = 1 by kernel_rfl] using h1
  obtain ⟨x1, e1, w1⟩ := int_of Try.underlying3 h1
  subst e1
  have h2 := hf 2 _ rfl
  replace h2 : DataW.trod enc Try.prog w base (fun _ => true) held m 35 [v2] = some y2 := by simpa [show Try.prog.cellsOf 35 = 1 by kernel_rfl] using h2
  obtain ⟨x2, e2, w2⟩ := int_of Try.underlying35 h2
  subst e2
  have h3 := hf 3 _ rfl
  replace h3 : DataW.trod enc Try.prog w base (fun _ => true) held m 5 [v3] = some y3 := by simpa [show Try.prog.cellsOf 5 = 1 by kernel_rfl] using h3
  obtain ⟨x3, e3, w3⟩ := int_of Try.underlying5 h3
  subst e3
  have h4 := hf 4 _ rfl
  replace h4 : DataW.trod enc Try.prog w base (fun _ => true) held m 4 [v4] = some y4 := by simpa [show Try.prog.cellsOf 4 = 1 by kernel_rfl] using h4
  obtain ⟨x4, e4⟩ := bool_of Try.underlying4 h4
  subst e4
  have h5 := hf 5 _ rfl
  replace h5 : DataW.trod enc Try.prog w base (fun _ => true) held m 22 [v5] = some y5 := by simpa [show Try.prog.cellsOf 22 = 1 by kernel_rfl] using h5
  obtain ⟨A5, c5, x5, e5, g5, l5, m5, w5⟩ := slice_of (d := (Kd.int .i64)) (Wf := fun z => (Lit.int .i64 z).wf = true) Try.underlying22 (by kernel_rfl) (by decide) (fun _ _ _ h => int_K Try.underlying3 h) h5
  subst e5
  exact ⟨⟨x0, x1, x2, x3, x4, x5⟩, (show k40.K w _ _ from by unfold k40; exact ⟨[.int .i64 x0], [.int .i64 x1, .int .u64 x2, .int .u8 x3, .bool x4, .slice A5 x5.length c5], rfl, rfl, ⟨[.int .i64 x1], [.int .u64 x2, .int .u8 x3, .bool x4, .slice A5 x5.length c5], rfl, rfl, ⟨[.int .u64 x2], [.int .u8 x3, .bool x4, .slice A5 x5.length c5], rfl, rfl, ⟨[.int .u8 x3], [.bool x4, .slice A5 x5.length c5], rfl, rfl, ⟨[.bool x4], [.slice A5 x5.length c5], rfl, rfl, ⟨A5, c5, rfl, l5, g5⟩⟩⟩⟩⟩⟩), ⟨w0, w1, w2, w3, trivial, ⟨m5, w5⟩⟩⟩
end
end Go.Proofs.Ytjdnkhgpnddncaa.Own
