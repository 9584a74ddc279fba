-- Made by lawrow.py (mine), after the rows that the kit's print writes; parts of it typed by hand.
import Derived.Test.YtjdnkhgpnddncaaRows
import Derived.Test.YtjdnkhgpnddncaaG94
import Derived.Test.YtjdnkhgpnddncaaPureTablePlays
import Derived.Test.YtjdnkhgpnddncaaRow
import Derived.Test.YtjdnkhgpnddncaaOpen
import Derived.WalkKit
import Derived.ProofKit
import Derived.OpenShut
import Derived.ShutString
import Derived.ChangeOld
import Derived.Below
import Derived.SizedLaws
import Derived.Test.YtjdnkhgpnddncaaWSized
namespace Go.Proofs.Ytjdnkhgpnddncaa.tablePlays
open Go.ChangeShapes Go.WideShapes Go.ChangeAt Go.RowKit Go.Proofs.Ytjdnkhgpnddncaa.G
open Go.ChangeMaps (open_string shut_string)
set_option linter.unusedVariables false
theorem own : ownKnob Try.prog.godebug = none := by kernel_rfl
theorem laidOut : laidOutB Try.prog = true := by kernel_rfl
set_option maxRecDepth 100000 in
theorem lifted (os : Os) (started : os.Started) (H : Type) (enc : TypeId × Value → H) :
    ReturnsInHanded {} Try.checked os 7 .any (Rows.tablePlaysSpec.pre6 enc Try.prog Try.f7 Rows.tablePlaysRow.domain false) (Rows.tablePlaysSpec.post enc Try.prog Try.f7 false true false false) := by
  refine returnsInHanded_of_change_sized (C := Try.checked) own started (by kernel_rfl) Try.func7
    (ChangeSpec.witness6 (enc := enc) (C := Try.checked) false ⟨#[], #[.agg #[.int .i64 0, .int .i64 0, .bool false], .slice none 0 0], []⟩ 8 (by kernel_rfl) (by kernel_rfl) (by kernel_rfl) (by kernel_rfl)) ?_
  intro W base args ds gs before hval0 hW hcnd hsz0 _
  have hsz : (DataW.weightsEach Try.prog (Try.f7.params.toList ++ Rows.tablePlaysSpec.plain.varTypes Try.prog) (ds ++ gs)).all (· ≤ reachBytes) = true := hsz0
  have hval : ∀ (j : Nat) t v, Try.f7.params[j]? = some t → args[j]? = some v → Value.okWide Try.prog W .any base t v := hval0
  have hW' := hW
  obtain ⟨p, q, hA0, hV, rfl, hfz, hnd⟩ := hW
  have hA : DataW.TrodAll enc Try.prog W 0 (fun _ => true) true Try.f7.params.toList args.toList ds p := hA0
  rw [Try.params7] at hA hval hsz
  obtain ⟨v0, vs0, d0, ds0, p0, q0, hargs, rfl, rfl, h0, r0⟩ := trodAll_cons hA
  obtain ⟨v1, vs1, d1, ds1, p1, q1, rfl, rfl, rfl, h1, r1⟩ := trodAll_cons r0
  obtain ⟨rfl, rfl, rfl⟩ := trodAll_nil r1
  obtain rfl : args = #[v0, v1] := by cases args; simp_all
  obtain ⟨rfl, rfl⟩ := trodVars_none hV
  have k0 := h0
  have lt0 : ∀ x ∈ p0, x.block < W.heap.size := by obtain ⟨m, hm⟩ := k0; exact DataW.trod_lt m _ _ _ hm
  obtain ⟨v0_0, v0_1, v0_2, y0_0, y0_1, y0_2, m0, rfl, hd0, hp0, z0_0, z0_1, z0_2⟩ := Go.Joins.open_agg3 Try.underlying29 (by kernel_rfl) (by kernel_rfl) (hval 0 29 v0 rfl rfl) h0
  obtain ⟨a0_0, rfl, w0_0⟩ := Own.int_of (P := Try.prog) Try.underlying3 z0_0
  obtain ⟨a0_1, rfl, w0_1⟩ := Own.int_of (P := Try.prog) Try.underlying3 z0_1
  obtain ⟨a0_2, rfl⟩ := Own.bool_of (P := Try.prog) Try.underlying4 z0_2
  have k1 := h1
  have lt1 : ∀ x ∈ p1, x.block < W.heap.size := by obtain ⟨m, hm⟩ := k1; exact DataW.trod_lt m _ _ _ hm
  obtain ⟨b1, len1, cap1, rfl⟩ := okWide_slice Try.underlying37 (hval 1 37 v1 rfl rfl)
  obtain ⟨m1, z1⟩ := h1
  obtain ⟨A1, c1, l1, he1, hr1, hc1, hm1, hw1⟩ := Own.slice_of (P := Try.prog) (v := .slice b1 len1 cap1) (d := k40) (Wf := fun z => Own.wf40 z) Try.underlying37 (by kernel_rfl) (by decide) (fun _ _ _ h => Own.op_T40 h) (by simpa [Value.cells] using z1)
  obtain ⟨rfl, rfl, rfl⟩ := Value.slice.inj he1
  clear hA0 hval0 hsz0 hsz
  have hP := Pure.TablePlays a0_0 a0_1 a0_2 l1 w0_0 w0_1 hm1 hw1
  refine (G.avocetlaw14_TablePlays.calls (r := true) (w := W) (hr1 := hr1) (hc1 := hc1) (hr_ := rfl) (h := hP)).mono fun e W' ⟨he, bel⟩ => ?_
  subst he
  exact ⟨_, rfl, _, _, _, [], _, [], hW', trodAll_mk1 (shut_bool Try.underlying4 _), (trodAll_cons_mk (Below.trod laidOut (by kernel_rfl) (of_decide_eq_true (by kernel_rfl)) k0 bel lt0) (trodAll_cons_mk (Below.trod laidOut (by kernel_rfl) (of_decide_eq_true (by kernel_rfl)) k1 bel lt1) trodAll_mk0)), rfl, bel.frame _, fun h => by cases h⟩
theorem over : Rows.tablePlaysRow.holds Try.pinned (OpenSpec.ofChange Rows.tablePlaysSpec) :=
  OpenClaim.holds_of_wide 7 Try.f7 rfl rfl rfl rfl rfl rfl rfl ⟨rfl, rfl, rfl, rfl, rfl⟩ rfl rfl rfl rfl rfl (by kernel_rfl) Try.func7 (by kernel_rfl)
    (of_decide_eq_true (by kernel_rfl)) (by unfold Func.isWrapper; first | (rw [if_pos (by decide +kernel)]; kernel_rfl) | (rw [if_neg (by decide +kernel)]; exact ⟨rfl, rfl⟩))
    (fun os started H enc _ => lifted os started H enc)
theorem proved : Rows.TablePlaysSaid := over
#print axioms proved
end Go.Proofs.Ytjdnkhgpnddncaa.tablePlays
namespace Go.Proofs.Ytjdnkhgpnddncaa
/-- The row, under a short name, for the claim. -/
theorem tablePlays_holds : Rows.TablePlaysSaid := tablePlays.proved
end Go.Proofs.Ytjdnkhgpnddncaa
