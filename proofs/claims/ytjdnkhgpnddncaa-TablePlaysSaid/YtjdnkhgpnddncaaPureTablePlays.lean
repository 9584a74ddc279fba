/- TablePlays: whatever is done with a table, and with globals, what is answered, and what is there, is what the document says. For every input. -/
import Derived.Test.YtjdnkhgpnddncaaLawPTablePlays
namespace Go.Proofs.Ytjdnkhgpnddncaa.Pure
open Go.RowKit Go.Proofs.Ytjdnkhgpnddncaa.G Go.Proofs.YtjdnkhgpnddncaaW.PrintWords Go.Proofs.YtjdnkhgpnddncaaW.PrintLast
theorem okI_wf {x : Int} (h : (Lit.int .i64 x).wf = true) : okI x := by
  simp only [Lit.wf, Bool.and_eq_true, decide_eq_true_eq] at h
  have e1 : IntKind.i64.min = -9223372036854775808 := rfl
  have e2 : IntKind.i64.max = 9223372036854775807 := rfl
  unfold okI
  omega
theorem TablePlays : avocetlaw14_TablePlays.Pure := by
  unfold avocetlaw14_TablePlays.Pure
  intro a0 a1 a2 l1 w0 w1 hl hw
  unfold avocetlaw14_TablePlays.f
  refine if_pos ⟨⟨okI_wf w0, okI_wf w1⟩, fun x hx => ?_⟩
  have h := hw x hx
  unfold Own.wf40 at h
  have h1 := h.2.1
  have h2 := h.2.2.1
  have h3 := h.2.2.2.1
  clear h hw hx hl
  simp only [Lit.wf, Bool.and_eq_true, decide_eq_true_eq] at h1 h2 h3
  have e1 : IntKind.i64.min = -9223372036854775808 := rfl
  have e2 : IntKind.i64.max = 9223372036854775807 := rfl
  have e3 : IntKind.u64.min = 0 := rfl
  have e4 : IntKind.u64.max = 18446744073709551615 := rfl
  have e5 : IntKind.u8.min = 0 := rfl
  have e6 : IntKind.u8.max = 255 := rfl
  unfold okA okI
  omega
end Go.Proofs.Ytjdnkhgpnddncaa.Pure
