-- Made by lawrow.py (mine), after the rows that the kit's print writes; parts of it typed by hand.
import Derived.Test.YthddcbfgdpfcjaaRows
import Derived.Test.YthddcbfgdpfcjaaG8
import Derived.Test.YthddcbfgdpfcjaaPureTypesBack
import Derived.Test.YthddcbfgdpfcjaaRow
import Derived.WalkKit
import Derived.ProofKit
import Derived.OpenShut
import Derived.ShutString
import Derived.ChangeOld
import Derived.Below
import Derived.SizedLaws
import Derived.Test.YthddcbfgdpfcjaaWSized
namespace Go.Proofs.Ythddcbfgdpfcjaa.typesBack
open Go.ChangeShapes Go.WideShapes Go.ChangeAt Go.RowKit
open Go.ChangeMaps (open_string shut_string)
set_option linter.unusedVariables false
theorem own : ownKnob Try.prog.godebug = none := by kernel_rfl
theorem laidOut : laidOutB Try.prog = true := by kernel_rfl
set_option maxRecDepth 100000 in
theorem lifted (os : Os) (started : os.Started) (H : Type) (enc : TypeId × Value → H) :
    ReturnsInHanded {} Try.checked os 7 .any (Rows.typesBackSpec.pre6 enc Try.prog Try.f7 Rows.typesBackRow.domain false) (Rows.typesBackSpec.post enc Try.prog Try.f7 false true false false) := by
  refine returnsInHanded_of_change_sized (C := Try.checked) own started (by kernel_rfl) Try.func7
    (ChangeSpec.witness6 (enc := enc) (C := Try.checked) false ⟨#[], #[.slice none 0 0, .agg #[.slice none 0 0, .slice none 0 0], .agg #[.int .i64 0, .int .i64 0, .bool false]], []⟩ 8 (by kernel_rfl) (by kernel_rfl) (by kernel_rfl) (by kernel_rfl)) ?_
  intro W base args ds gs before hval0 hW hcnd hsz0 _
  have hsz : (DataW.weightsEach Try.prog (Try.f7.params.toList ++ Rows.typesBackSpec.plain.varTypes Try.prog) (ds ++ gs)).all (· ≤ reachBytes) = true := hsz0
  have hval : ∀ (j : Nat) t v, Try.f7.params[j]? = some t → args[j]? = some v → Value.okWide Try.prog W .any base t v := hval0
  have hW' := hW
  obtain ⟨p, q, hA0, hV, rfl, hfz, hnd⟩ := hW
  have hA : DataW.TrodAll enc Try.prog W 0 (fun _ => true) true Try.f7.params.toList args.toList ds p := hA0
  rw [Try.params7] at hA hval hsz
  obtain ⟨v0, vs0, d0, ds0, p0, q0, hargs, rfl, rfl, h0, r0⟩ := trodAll_cons hA
  obtain ⟨v1, vs1, d1, ds1, p1, q1, rfl, rfl, rfl, h1, r1⟩ := trodAll_cons r0
  obtain ⟨v2, vs2, d2, ds2, p2, q2, rfl, rfl, rfl, h2, r2⟩ := trodAll_cons r1
  obtain ⟨rfl, rfl, rfl⟩ := trodAll_nil r2
  obtain rfl : args = #[v0, v1, v2] := by cases args; simp_all
  obtain ⟨rfl, rfl⟩ := trodVars_none hV
  have k0 := h0
  have lt0 : ∀ x ∈ p0, x.block < W.heap.size := by obtain ⟨m, hm⟩ := k0; exact DataW.trod_lt m _ _ _ hm
  obtain ⟨a0, len0, cap0, rfl⟩ := okWide_slice Try.underlying22 (hval 0 22 v0 rfl rfl)
  have y0 : len0 * 1 ≤ 140737488351232 := Go.Proofs.YthddcbfgdpfcjaaW.PrintWords.sized_ints hsz (j := 0) (t := 22) rfl rfl Try.underlying22 Try.underlying5 (by kernel_rfl) (by kernel_rfl) h0
  obtain ⟨m0, z0⟩ := h0
  obtain ⟨A0, c0, l0, he0, hr0, hc0, hm0, hw0⟩ := Own.row_of (P := Try.prog) (v := .slice a0 len0 cap0) Try.underlying22 Try.underlying5 (by kernel_rfl) (by simpa [Value.cells] using z0)
  obtain ⟨rfl, rfl, rfl⟩ := Value.slice.inj he0
  have k1 := h1
  have lt1 : ∀ x ∈ p1, x.block < W.heap.size := by obtain ⟨m, hm⟩ := k1; exact DataW.trod_lt m _ _ _ hm
  obtain ⟨v1_0, v1_1, y1_0, y1_1, m1, rfl, hd1, hp1, z1_0, z1_1⟩ := Go.Joins.open_agg2 Try.underlying33 (by kernel_rfl) (by kernel_rfl) (hval 1 33 v1 rfl rfl) h1
  obtain ⟨A1_0, c1_0, l1_0, rfl, hr1_0, hc1_0, hm1_0, hw1_0⟩ := Own.row_of (P := Try.prog) Try.underlying22 Try.underlying5 (by kernel_rfl) z1_0
  obtain ⟨A1_1, c1_1, l1_1, rfl, hr1_1, hc1_1, hm1_1, hw1_1⟩ := Own.row_of (P := Try.prog) Try.underlying22 Try.underlying5 (by kernel_rfl) z1_1
  have k2 := h2
  have lt2 : ∀ x ∈ p2, x.block < W.heap.size := by obtain ⟨m, hm⟩ := k2; exact DataW.trod_lt m _ _ _ hm
  obtain ⟨v2_0, v2_1, v2_2, y2_0, y2_1, y2_2, m2, rfl, hd2, hp2, z2_0, z2_1, z2_2⟩ := Go.Joins.open_agg3 Try.underlying29 (by kernel_rfl) (by kernel_rfl) (hval 2 29 v2 rfl rfl) h2
  obtain ⟨a2_0, rfl, w2_0⟩ := Own.int_of (P := Try.prog) Try.underlying3 z2_0
  obtain ⟨a2_1, rfl, w2_1⟩ := Own.int_of (P := Try.prog) Try.underlying3 z2_1
  obtain ⟨a2_2, rfl⟩ := Own.bool_of (P := Try.prog) Try.underlying4 z2_2
  clear hA0 hval0 hsz0 hsz
  have hP := Pure.TypesBack l0 l1_0 l1_1 a2_0 a2_1 a2_2 hm0 y0 hw0 hm1_0 hw1_0 hm1_1 hw1_1 w2_0 w2_1
  obtain ⟨k, hP⟩ := hP
  refine (G.avocetlaw04_TypesBack.calls (k := k) (r := true) (w := W) (hr0 := hr0) (hc0 := hc0) (hr1_0 := hr1_0) (hc1_0 := hc1_0) (hr1_1 := hr1_1) (hc1_1 := hc1_1) (hr_ := rfl) (h := hP)).mono fun e W' ⟨he, bel⟩ => ?_
  subst he
  exact ⟨_, rfl, _, _, _, [], _, [], hW', trodAll_mk1 (shut_bool Try.underlying4 _), (trodAll_cons_mk (Below.trod laidOut (by kernel_rfl) (of_decide_eq_true (by kernel_rfl)) k0 bel lt0) (trodAll_cons_mk (Below.trod laidOut (by kernel_rfl) (of_decide_eq_true (by kernel_rfl)) k1 bel lt1) (trodAll_cons_mk (Below.trod laidOut (by kernel_rfl) (of_decide_eq_true (by kernel_rfl)) k2 bel lt2) trodAll_mk0))), rfl, bel.frame _, fun h => by cases h⟩
theorem over : Rows.typesBackRow.holds Try.pinned (OpenSpec.ofChange Rows.typesBackSpec) :=
  OpenClaim.holds_of_wide 7 Try.f7 rfl rfl rfl rfl rfl rfl rfl ⟨rfl, rfl, rfl, rfl, rfl⟩ rfl rfl rfl rfl rfl (by kernel_rfl) Try.func7 (by kernel_rfl)
    (of_decide_eq_true (by kernel_rfl)) (by unfold Func.isWrapper; first | (rw [if_pos (by decide +kernel)]; kernel_rfl) | (rw [if_neg (by decide +kernel)]; exact ⟨rfl, rfl⟩))
    (fun os started H enc _ => lifted os started H enc)
theorem proved : Rows.TypesBackSaid := over
#print axioms proved
end Go.Proofs.Ythddcbfgdpfcjaa.typesBack
namespace Go.Proofs.Ythddcbfgdpfcjaa
/-- The row, under a short name, for the claim. -/
theorem typesBack_holds : Rows.TypesBackSaid := typesBack.proved
end Go.Proofs.Ythddcbfgdpfcjaa
