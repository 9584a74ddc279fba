-- Made by lawrow.py (mine), after the rows that the kit's print writes; parts of it typed by hand.
import Derived.Test.YtbjglicdamenhaaRows
import Derived.Test.YtbjglicdamenhaaG91
import Derived.Test.YtbjglicdamenhaaPureHostBounds
import Derived.Test.YtbjglicdamenhaaRow
import Derived.Test.YtbjglicdamenhaaAgg6
import Derived.WalkKit
import Derived.ProofKit
import Derived.OpenShut
import Derived.ShutString
import Derived.ChangeOld
import Derived.Below
import Derived.SizedLaws
import Derived.Test.YtbjglicdamenhaaWSized
namespace Go.Proofs.Ytbjglicdamenhaa.hostBounds
open Go.ChangeShapes Go.WideShapes Go.ChangeAt Go.RowKit Go.Proofs.Ytbjglicdamenhaa.G
open Go.ChangeMaps (open_string shut_string)
set_option linter.unusedVariables false
theorem own : ownKnob Try.prog.godebug = none := by kernel_rfl
theorem laidOut : laidOutB Try.prog = true := by kernel_rfl
set_option maxRecDepth 100000 in
theorem lifted (os : Os) (started : os.Started) (H : Type) (enc : TypeId × Value → H) :
    ReturnsInHanded {} Try.checked os 6 .any (Rows.hostBoundsSpec.pre6 enc Try.prog Try.f6 Rows.hostBoundsRow.domain false) (Rows.hostBoundsSpec.post enc Try.prog Try.f6 false true false false) := by
  refine returnsInHanded_of_change_sized (C := Try.checked) own started (by kernel_rfl) Try.func6
    (ChangeSpec.witness6 (enc := enc) (C := Try.checked) false ⟨#[], #[.agg #[.int .u64 0, .bool false, .int .i64 0, .slice none 0 0, .int .i64 0, .int .u64 0]], []⟩ 8 (by kernel_rfl) (by kernel_rfl) (by kernel_rfl) (by kernel_rfl)) ?_
  intro W base args ds gs before hval0 hW hcnd hsz0 _
  have hsz : (DataW.weightsEach Try.prog (Try.f6.params.toList ++ Rows.hostBoundsSpec.plain.varTypes Try.prog) (ds ++ gs)).all (· ≤ reachBytes) = true := hsz0
  have hval : ∀ (j : Nat) t v, Try.f6.params[j]? = some t → args[j]? = some v → Value.okWide Try.prog W .any base t v := hval0
  have hW' := hW
  obtain ⟨p, q, hA0, hV, rfl, hfz, hnd⟩ := hW
  have hA : DataW.TrodAll enc Try.prog W 0 (fun _ => true) true Try.f6.params.toList args.toList ds p := hA0
  rw [Try.params6] at hA hval hsz
  obtain ⟨v0, vs0, d0, ds0, p0, q0, hargs, rfl, rfl, h0, r0⟩ := trodAll_cons hA
  obtain ⟨rfl, rfl, rfl⟩ := trodAll_nil r0
  obtain rfl : args = #[v0] := by cases args; simp_all
  obtain ⟨rfl, rfl⟩ := trodVars_none hV
  have k0 := h0
  have lt0 : ∀ x ∈ p0, x.block < W.heap.size := by obtain ⟨m, hm⟩ := k0; exact DataW.trod_lt m _ _ _ hm
  obtain ⟨v0_0, v0_1, v0_2, v0_3, v0_4, v0_5, y0_0, y0_1, y0_2, y0_3, y0_4, y0_5, m0, rfl, hd0, hp0, z0_0, z0_1, z0_2, z0_3, z0_4, z0_5⟩ := Own.open_agg6 Try.underlying82 (by kernel_rfl) (by kernel_rfl) (hval 0 82 v0 rfl rfl) h0
  obtain ⟨a0_0, rfl, w0_0⟩ := Own.int_of (P := Try.prog) Try.underlying31 z0_0
  obtain ⟨a0_1, rfl⟩ := Own.bool_of (P := Try.prog) Try.underlying4 z0_1
  obtain ⟨a0_2, rfl, w0_2⟩ := Own.int_of (P := Try.prog) Try.underlying3 z0_2
  obtain ⟨A0_3, c0_3, l0_3, rfl, hr0_3, hc0_3, hm0_3, hw0_3⟩ := Own.row_of (P := Try.prog) Try.underlying35 Try.underlying5 (by kernel_rfl) z0_3
  obtain ⟨a0_4, rfl, w0_4⟩ := Own.int_of (P := Try.prog) Try.underlying3 z0_4
  obtain ⟨a0_5, rfl, w0_5⟩ := Own.int_of (P := Try.prog) Try.underlying31 z0_5
  clear hA0 hval0 hsz0 hsz
  have hP := Pure.HostBounds a0_0 a0_1 a0_2 l0_3 a0_4 a0_5 w0_0 w0_2 hm0_3 hw0_3 w0_4 w0_5
  refine (G.avocetlaw16_HostBounds.calls (r := true) (w := W) (hr0_3 := hr0_3) (hc0_3 := hc0_3) (hr_ := rfl) (h := hP)).mono fun e W' ⟨he, bel⟩ => ?_
  subst he
  exact ⟨_, rfl, _, _, _, [], _, [], hW', trodAll_mk1 (shut_bool Try.underlying4 _), (trodAll_cons_mk (Below.trod laidOut (by kernel_rfl) (of_decide_eq_true (by kernel_rfl)) k0 bel lt0) trodAll_mk0), rfl, bel.frame _, fun h => by cases h⟩
theorem over : Rows.hostBoundsRow.holds Try.pinned (OpenSpec.ofChange Rows.hostBoundsSpec) :=
  OpenClaim.holds_of_wide 6 Try.f6 rfl rfl rfl rfl rfl rfl rfl ⟨rfl, rfl, rfl, rfl, rfl⟩ rfl rfl rfl rfl rfl (by kernel_rfl) Try.func6 (by kernel_rfl)
    (of_decide_eq_true (by kernel_rfl)) (by unfold Func.isWrapper; first | (rw [if_pos (by decide +kernel)]; kernel_rfl) | (rw [if_neg (by decide +kernel)]; exact ⟨rfl, rfl⟩))
    (fun os started H enc _ => lifted os started H enc)
theorem proved : Rows.HostBoundsSaid := over
#print axioms proved
end Go.Proofs.Ytbjglicdamenhaa.hostBounds
namespace Go.Proofs.Ytbjglicdamenhaa
/-- The row, under a short name, for the claim. -/
theorem hostBounds_holds : Rows.HostBoundsSaid := hostBounds.proved
end Go.Proofs.Ytbjglicdamenhaa
