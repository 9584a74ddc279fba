-- Made by lawrow.py (mine), after the rows that the kit's print writes; parts of it typed by hand.
import Derived.Test.YthddcbfgdpfcjaaRows
import Derived.Test.YthddcbfgdpfcjaaG5
import Derived.Test.YthddcbfgdpfcjaaPureTypesOne
import Derived.Test.YthddcbfgdpfcjaaRow
import Derived.WalkKit
import Derived.ProofKit
import Derived.OpenShut
import Derived.ShutString
import Derived.ChangeOld
import Derived.Below
import Derived.SizedLaws
import Derived.Test.YthddcbfgdpfcjaaWSized
namespace Go.Proofs.Ythddcbfgdpfcjaa.typesOne
open Go.ChangeShapes Go.WideShapes Go.ChangeAt Go.RowKit
open Go.ChangeMaps (open_string shut_string)
set_option linter.unusedVariables false
theorem own : ownKnob Try.prog.godebug = none := by kernel_rfl
theorem laidOut : laidOutB Try.prog = true := by kernel_rfl
set_option maxRecDepth 100000 in
theorem lifted (os : Os) (started : os.Started) (H : Type) (enc : TypeId × Value → H) :
    ReturnsInHanded {} Try.checked os 5 .any (Rows.typesOneSpec.pre6 enc Try.prog Try.f5 Rows.typesOneRow.domain false) (Rows.typesOneSpec.post enc Try.prog Try.f5 false true false false) := by
  refine returnsInHanded_of_change_sized (C := Try.checked) own started (by kernel_rfl) Try.func5
    (ChangeSpec.witness6 (enc := enc) (C := Try.checked) false ⟨#[], #[.agg #[.slice none 0 0, .slice none 0 0], .agg #[.slice none 0 0, .slice none 0 0]], []⟩ 8 (by kernel_rfl) (by kernel_rfl) (by kernel_rfl) (by kernel_rfl)) ?_
  intro W base args ds gs before hval0 hW hcnd hsz0 _
  have hsz : (DataW.weightsEach Try.prog (Try.f5.params.toList ++ Rows.typesOneSpec.plain.varTypes Try.prog) (ds ++ gs)).all (· ≤ reachBytes) = true := hsz0
  have hval : ∀ (j : Nat) t v, Try.f5.params[j]? = some t → args[j]? = some v → Value.okWide Try.prog W .any base t v := hval0
  have hW' := hW
  obtain ⟨p, q, hA0, hV, rfl, hfz, hnd⟩ := hW
  have hA : DataW.TrodAll enc Try.prog W 0 (fun _ => true) true Try.f5.params.toList args.toList ds p := hA0
  rw [Try.params5] at hA hval hsz
  obtain ⟨v0, vs0, d0, ds0, p0, q0, hargs, rfl, rfl, h0, r0⟩ := trodAll_cons hA
  obtain ⟨v1, vs1, d1, ds1, p1, q1, rfl, rfl, rfl, h1, r1⟩ := trodAll_cons r0
  obtain ⟨rfl, rfl, rfl⟩ := trodAll_nil r1
  obtain rfl : args = #[v0, v1] := by cases args; simp_all
  obtain ⟨rfl, rfl⟩ := trodVars_none hV
  have k0 := h0
  have lt0 : ∀ x ∈ p0, x.block < W.heap.size := by obtain ⟨m, hm⟩ := k0; exact DataW.trod_lt m _ _ _ hm
  obtain ⟨v0_0, v0_1, y0_0, y0_1, m0, rfl, hd0, hp0, z0_0, z0_1⟩ := Go.Joins.open_agg2 Try.underlying33 (by kernel_rfl) (by kernel_rfl) (hval 0 33 v0 rfl rfl) h0
  obtain ⟨A0_0, c0_0, l0_0, rfl, hr0_0, hc0_0, hm0_0, hw0_0⟩ := Own.row_of (P := Try.prog) Try.underlying22 Try.underlying5 (by kernel_rfl) z0_0
  obtain ⟨A0_1, c0_1, l0_1, rfl, hr0_1, hc0_1, hm0_1, hw0_1⟩ := Own.row_of (P := Try.prog) Try.underlying22 Try.underlying5 (by kernel_rfl) z0_1
  have k1 := h1
  have lt1 : ∀ x ∈ p1, x.block < W.heap.size := by obtain ⟨m, hm⟩ := k1; exact DataW.trod_lt m _ _ _ hm
  obtain ⟨v1_0, v1_1, y1_0, y1_1, m1, rfl, hd1, hp1, z1_0, z1_1⟩ := Go.Joins.open_agg2 Try.underlying33 (by kernel_rfl) (by kernel_rfl) (hval 1 33 v1 rfl rfl) h1
  obtain ⟨A1_0, c1_0, l1_0, rfl, hr1_0, hc1_0, hm1_0, hw1_0⟩ := Own.row_of (P := Try.prog) Try.underlying22 Try.underlying5 (by kernel_rfl) z1_0
  obtain ⟨A1_1, c1_1, l1_1, rfl, hr1_1, hc1_1, hm1_1, hw1_1⟩ := Own.row_of (P := Try.prog) Try.underlying22 Try.underlying5 (by kernel_rfl) z1_1
  clear hA0 hval0 hsz0 hsz
  have hP := Pure.TypesOne l0_0 l0_1 l1_0 l1_1 hm0_0 hw0_0 hm0_1 hw0_1 hm1_0 hw1_0 hm1_1 hw1_1
  obtain ⟨k, hP⟩ := hP
  refine (G.avocetlaw04_TypesOne.calls (k := k) (r := true) (w := W) (hr0_0 := hr0_0) (hc0_0 := hc0_0) (hr0_1 := hr0_1) (hc0_1 := hc0_1) (hr1_0 := hr1_0) (hc1_0 := hc1_0) (hr1_1 := hr1_1) (hc1_1 := hc1_1) (hr_ := rfl) (h := hP)).mono fun e W' ⟨he, bel⟩ => ?_
  subst he
  exact ⟨_, rfl, _, _, _, [], _, [], hW', trodAll_mk1 (shut_bool Try.underlying4 _), (trodAll_cons_mk (Below.trod laidOut (by kernel_rfl) (of_decide_eq_true (by kernel_rfl)) k0 bel lt0) (trodAll_cons_mk (Below.trod laidOut (by kernel_rfl) (of_decide_eq_true (by kernel_rfl)) k1 bel lt1) trodAll_mk0)), rfl, bel.frame _, fun h => by cases h⟩
theorem over : Rows.typesOneRow.holds Try.pinned (OpenSpec.ofChange Rows.typesOneSpec) :=
  OpenClaim.holds_of_wide 5 Try.f5 rfl rfl rfl rfl rfl rfl rfl ⟨rfl, rfl, rfl, rfl, rfl⟩ rfl rfl rfl rfl rfl (by kernel_rfl) Try.func5 (by kernel_rfl)
    (of_decide_eq_true (by kernel_rfl)) (by unfold Func.isWrapper; first | (rw [if_pos (by decide +kernel)]; kernel_rfl) | (rw [if_neg (by decide +kernel)]; exact ⟨rfl, rfl⟩))
    (fun os started H enc _ => lifted os started H enc)
theorem proved : Rows.TypesOneSaid := over
#print axioms proved
end Go.Proofs.Ythddcbfgdpfcjaa.typesOne
namespace Go.Proofs.Ythddcbfgdpfcjaa
/-- The row, under a short name, for the claim. -/
theorem typesOne_holds : Rows.TypesOneSaid := typesOne.proved
end Go.Proofs.Ythddcbfgdpfcjaa
