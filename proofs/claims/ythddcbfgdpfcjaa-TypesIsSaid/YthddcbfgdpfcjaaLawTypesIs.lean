-- Made by lawrow.py (mine), after the rows that the kit's print writes; parts of it typed by hand.
import Derived.Test.YthddcbfgdpfcjaaRows
import Derived.Test.YthddcbfgdpfcjaaG8
import Derived.Test.YthddcbfgdpfcjaaPureTypesIs
import Derived.Test.YthddcbfgdpfcjaaRow
import Derived.WalkKit
import Derived.ProofKit
import Derived.OpenShut
import Derived.ShutString
import Derived.ChangeOld
import Derived.Below
import Derived.SizedLaws
import Derived.Test.YthddcbfgdpfcjaaWSized
namespace Go.Proofs.Ythddcbfgdpfcjaa.typesIs
open Go.ChangeShapes Go.WideShapes Go.ChangeAt Go.RowKit Go.Proofs.Ythddcbfgdpfcjaa.G
open Go.ChangeMaps (open_string shut_string)
set_option linter.unusedVariables false
theorem own : ownKnob Try.prog.godebug = none := by kernel_rfl
theorem laidOut : laidOutB Try.prog = true := by kernel_rfl
set_option maxRecDepth 100000 in
theorem lifted (os : Os) (started : os.Started) (H : Type) (enc : TypeId × Value → H) :
    ReturnsInHanded {} Try.checked os 8 .any (Rows.typesIsSpec.pre6 enc Try.prog Try.f8 Rows.typesIsRow.domain false) (Rows.typesIsSpec.post enc Try.prog Try.f8 false true false false) := by
  refine returnsInHanded_of_change_sized (C := Try.checked) own started (by kernel_rfl) Try.func8
    (ChangeSpec.witness6 (enc := enc) (C := Try.checked) false ⟨#[], #[.slice none 0 0, .int .i64 0, .agg #[.slice none 0 0, .slice none 0 0], .agg #[.slice none 0 0, .slice none 0 0], .agg #[.int .i64 0, .int .i64 0, .bool false], .agg #[.int .i64 0, .int .i64 0, .bool false]], []⟩ 8 (by kernel_rfl) (by kernel_rfl) (by kernel_rfl) (by kernel_rfl)) ?_
  intro W base args ds gs before hval0 hW hcnd hsz0 _
  have hsz : (DataW.weightsEach Try.prog (Try.f8.params.toList ++ Rows.typesIsSpec.plain.varTypes Try.prog) (ds ++ gs)).all (· ≤ reachBytes) = true := hsz0
  have hval : ∀ (j : Nat) t v, Try.f8.params[j]? = some t → args[j]? = some v → Value.okWide Try.prog W .any base t v := hval0
  have hW' := hW
  obtain ⟨p, q, hA0, hV, rfl, hfz, hnd⟩ := hW
  have hA : DataW.TrodAll enc Try.prog W 0 (fun _ => true) true Try.f8.params.toList args.toList ds p := hA0
  rw [Try.params8] at hA hval hsz
  obtain ⟨v0, vs0, d0, ds0, p0, q0, hargs, rfl, rfl, h0, r0⟩ := trodAll_cons hA
  obtain ⟨v1, vs1, d1, ds1, p1, q1, rfl, rfl, rfl, h1, r1⟩ := trodAll_cons r0
  obtain ⟨v2, vs2, d2, ds2, p2, q2, rfl, rfl, rfl, h2, r2⟩ := trodAll_cons r1
  obtain ⟨v3, vs3, d3, ds3, p3, q3, rfl, rfl, rfl, h3, r3⟩ := trodAll_cons r2
  obtain ⟨v4, vs4, d4, ds4, p4, q4, rfl, rfl, rfl, h4, r4⟩ := trodAll_cons r3
  obtain ⟨v5, vs5, d5, ds5, p5, q5, rfl, rfl, rfl, h5, r5⟩ := trodAll_cons r4
  obtain ⟨rfl, rfl, rfl⟩ := trodAll_nil r5
  obtain rfl : args = #[v0, v1, v2, v3, v4, v5] := by cases args; simp_all
  obtain ⟨rfl, rfl⟩ := trodVars_none hV
  have k0 := h0
  have lt0 : ∀ x ∈ p0, x.block < W.heap.size := by obtain ⟨m, hm⟩ := k0; exact DataW.trod_lt m _ _ _ hm
  obtain ⟨a0, len0, cap0, rfl⟩ := okWide_slice Try.underlying22 (hval 0 22 v0 rfl rfl)
  have y0 : len0 * 1 ≤ 140737488351232 := Go.Proofs.YthddcbfgdpfcjaaW.PrintWords.sized_ints hsz (j := 0) (t := 22) rfl rfl Try.underlying22 Try.underlying5 (by kernel_rfl) (by kernel_rfl) h0
  obtain ⟨m0, z0⟩ := h0
  obtain ⟨A0, c0, l0, he0, hr0, hc0, hm0, hw0⟩ := Own.row_of (P := Try.prog) (v := .slice a0 len0 cap0) Try.underlying22 Try.underlying5 (by kernel_rfl) (by simpa [Value.cells] using z0)
  obtain ⟨rfl, rfl, rfl⟩ := Value.slice.inj he0
  have k1 := h1
  have lt1 : ∀ x ∈ p1, x.block < W.heap.size := by obtain ⟨m, hm⟩ := k1; exact DataW.trod_lt m _ _ _ hm
  obtain ⟨m1, z1⟩ := h1
  obtain ⟨a1, rfl⟩ := okWide_int Try.underlying3 (hval 1 3 v1 rfl rfl)
  obtain ⟨b1, hb1, w1⟩ := Own.int_of (P := Try.prog) (v := .int .i64 a1) Try.underlying3 (by simpa [Value.cells] using z1)
  obtain ⟨_, rfl⟩ := Value.int.inj hb1
  have k2 := h2
  have lt2 : ∀ x ∈ p2, x.block < W.heap.size := by obtain ⟨m, hm⟩ := k2; exact DataW.trod_lt m _ _ _ hm
  obtain ⟨v2_0, v2_1, y2_0, y2_1, m2, rfl, hd2, hp2, z2_0, z2_1⟩ := Go.Joins.open_agg2 Try.underlying33 (by kernel_rfl) (by kernel_rfl) (hval 2 33 v2 rfl rfl) h2
  obtain ⟨A2_0, c2_0, l2_0, rfl, hr2_0, hc2_0, hm2_0, hw2_0⟩ := Own.row_of (P := Try.prog) Try.underlying22 Try.underlying5 (by kernel_rfl) z2_0
  obtain ⟨A2_1, c2_1, l2_1, rfl, hr2_1, hc2_1, hm2_1, hw2_1⟩ := Own.row_of (P := Try.prog) Try.underlying22 Try.underlying5 (by kernel_rfl) z2_1
  have k3 := h3
  have lt3 : ∀ x ∈ p3, x.block < W.heap.size := by obtain ⟨m, hm⟩ := k3; exact DataW.trod_lt m _ _ _ hm
  obtain ⟨v3_0, v3_1, y3_0, y3_1, m3, rfl, hd3, hp3, z3_0, z3_1⟩ := Go.Joins.open_agg2 Try.underlying33 (by kernel_rfl) (by kernel_rfl) (hval 3 33 v3 rfl rfl) h3
  obtain ⟨A3_0, c3_0, l3_0, rfl, hr3_0, hc3_0, hm3_0, hw3_0⟩ := Own.row_of (P := Try.prog) Try.underlying22 Try.underlying5 (by kernel_rfl) z3_0
  obtain ⟨A3_1, c3_1, l3_1, rfl, hr3_1, hc3_1, hm3_1, hw3_1⟩ := Own.row_of (P := Try.prog) Try.underlying22 Try.underlying5 (by kernel_rfl) z3_1
  have k4 := h4
  have lt4 : ∀ x ∈ p4, x.block < W.heap.size := by obtain ⟨m, hm⟩ := k4; exact DataW.trod_lt m _ _ _ hm
  obtain ⟨v4_0, v4_1, v4_2, y4_0, y4_1, y4_2, m4, rfl, hd4, hp4, z4_0, z4_1, z4_2⟩ := Go.Joins.open_agg3 Try.underlying29 (by kernel_rfl) (by kernel_rfl) (hval 4 29 v4 rfl rfl) h4
  obtain ⟨a4_0, rfl, w4_0⟩ := Own.int_of (P := Try.prog) Try.underlying3 z4_0
  obtain ⟨a4_1, rfl, w4_1⟩ := Own.int_of (P := Try.prog) Try.underlying3 z4_1
  obtain ⟨a4_2, rfl⟩ := Own.bool_of (P := Try.prog) Try.underlying4 z4_2
  have k5 := h5
  have lt5 : ∀ x ∈ p5, x.block < W.heap.size := by obtain ⟨m, hm⟩ := k5; exact DataW.trod_lt m _ _ _ hm
  obtain ⟨v5_0, v5_1, v5_2, y5_0, y5_1, y5_2, m5, rfl, hd5, hp5, z5_0, z5_1, z5_2⟩ := Go.Joins.open_agg3 Try.underlying29 (by kernel_rfl) (by kernel_rfl) (hval 5 29 v5 rfl rfl) h5
  obtain ⟨a5_0, rfl, w5_0⟩ := Own.int_of (P := Try.prog) Try.underlying3 z5_0
  obtain ⟨a5_1, rfl, w5_1⟩ := Own.int_of (P := Try.prog) Try.underlying3 z5_1
  obtain ⟨a5_2, rfl⟩ := Own.bool_of (P := Try.prog) Try.underlying4 z5_2
  clear hA0 hval0 hsz0 hsz
  have hP := Pure.TypesIs l0 a1 l2_0 l2_1 l3_0 l3_1 a4_0 a4_1 a4_2 a5_0 a5_1 a5_2 hm0 y0 hw0 w1 hm2_0 hw2_0 hm2_1 hw2_1 hm3_0 hw3_0 hm3_1 hw3_1 w4_0 w4_1 w5_0 w5_1
  obtain ⟨k, hP⟩ := hP
  refine (G.avocetlaw04_TypesIs.calls (k := k) (r := true) (w := W) (hr0 := hr0) (hc0 := hc0) (hr2_0 := hr2_0) (hc2_0 := hc2_0) (hr2_1 := hr2_1) (hc2_1 := hc2_1) (hr3_0 := hr3_0) (hc3_0 := hc3_0) (hr3_1 := hr3_1) (hc3_1 := hc3_1) (hr_ := rfl) (h := hP)).mono fun e W' ⟨he, bel⟩ => ?_
  subst he
  exact ⟨_, rfl, _, _, _, [], _, [], hW', trodAll_mk1 (shut_bool Try.underlying4 _), (trodAll_cons_mk (Below.trod laidOut (by kernel_rfl) (of_decide_eq_true (by kernel_rfl)) k0 bel lt0) (trodAll_cons_mk (Below.trod laidOut (by kernel_rfl) (of_decide_eq_true (by kernel_rfl)) k1 bel lt1) (trodAll_cons_mk (Below.trod laidOut (by kernel_rfl) (of_decide_eq_true (by kernel_rfl)) k2 bel lt2) (trodAll_cons_mk (Below.trod laidOut (by kernel_rfl) (of_decide_eq_true (by kernel_rfl)) k3 bel lt3) (trodAll_cons_mk (Below.trod laidOut (by kernel_rfl) (of_decide_eq_true (by kernel_rfl)) k4 bel lt4) (trodAll_cons_mk (Below.trod laidOut (by kernel_rfl) (of_decide_eq_true (by kernel_rfl)) k5 bel lt5) trodAll_mk0)))))), rfl, bel.frame _, fun h => by cases h⟩
theorem over : Rows.typesIsRow.holds Try.pinned (OpenSpec.ofChange Rows.typesIsSpec) :=
  OpenClaim.holds_of_wide 8 Try.f8 rfl rfl rfl rfl rfl rfl rfl ⟨rfl, rfl, rfl, rfl, rfl⟩ rfl rfl rfl rfl rfl (by kernel_rfl) Try.func8 (by kernel_rfl)
    (of_decide_eq_true (by kernel_rfl)) (by unfold Func.isWrapper; first | (rw [if_pos (by decide +kernel)]; kernel_rfl) | (rw [if_neg (by decide +kernel)]; exact ⟨rfl, rfl⟩))
    (fun os started H enc _ => lifted os started H enc)
theorem proved : Rows.TypesIsSaid := over
#print axioms proved
end Go.Proofs.Ythddcbfgdpfcjaa.typesIs
namespace Go.Proofs.Ythddcbfgdpfcjaa
/-- The row, under a short name, for the claim. -/
theorem typesIs_holds : Rows.TypesIsSaid := typesIs.proved
end Go.Proofs.Ythddcbfgdpfcjaa
