-- Made by lawrow.py (mine), after the rows that the kit's print writes; parts of it typed by hand.
import Derived.Test.YtbbgkelcdooabaaRows
import Derived.Test.YtbbgkelcdooabaaG91
import Derived.Test.YtbbgkelcdooabaaPureFramesLocals
import Derived.Test.YtbbgkelcdooabaaRow
import Derived.WalkKit
import Derived.ProofKit
import Derived.OpenShut
import Derived.ShutString
import Derived.ChangeOld
import Derived.Below
import Derived.SizedLaws
import Derived.Test.YtbbgkelcdooabaaWSized
namespace Go.Proofs.Ytbbgkelcdooabaa.framesLocals
open Go.ChangeShapes Go.WideShapes Go.ChangeAt Go.RowKit Go.Proofs.Ytbbgkelcdooabaa.G
open Go.ChangeMaps (open_string shut_string)
set_option linter.unusedVariables false
theorem own : ownKnob Try.prog.godebug = none := by kernel_rfl
theorem laidOut : laidOutB Try.prog = true := by kernel_rfl
set_option maxRecDepth 100000 in
theorem lifted (os : Os) (started : os.Started) (H : Type) (enc : TypeId × Value → H) :
    ReturnsInHanded {} Try.checked os 4 .any (Rows.framesLocalsSpec.pre6 enc Try.prog Try.f4 Rows.framesLocalsRow.domain false) (Rows.framesLocalsSpec.post enc Try.prog Try.f4 false true false false) := by
  refine returnsInHanded_of_change_sized (C := Try.checked) own started (by kernel_rfl) Try.func4
    (ChangeSpec.witness6 (enc := enc) (C := Try.checked) false ⟨#[], #[.slice none 0 0, .int .i64 0, .slice none 0 0, .int .u64 0], []⟩ 8 (by kernel_rfl) (by kernel_rfl) (by kernel_rfl) (by kernel_rfl)) ?_
  intro W base args ds gs before hval0 hW hcnd hsz0 _
  have hsz : (DataW.weightsEach Try.prog (Try.f4.params.toList ++ Rows.framesLocalsSpec.plain.varTypes Try.prog) (ds ++ gs)).all (· ≤ reachBytes) = true := hsz0
  have hval : ∀ (j : Nat) t v, Try.f4.params[j]? = some t → args[j]? = some v → Value.okWide Try.prog W .any base t v := hval0
  have hW' := hW
  obtain ⟨p, q, hA0, hV, rfl, hfz, hnd⟩ := hW
  have hA : DataW.TrodAll enc Try.prog W 0 (fun _ => true) true Try.f4.params.toList args.toList ds p := hA0
  rw [Try.params4] at hA hval hsz
  obtain ⟨v0, vs0, d0, ds0, p0, q0, hargs, rfl, rfl, h0, r0⟩ := trodAll_cons hA
  obtain ⟨v1, vs1, d1, ds1, p1, q1, rfl, rfl, rfl, h1, r1⟩ := trodAll_cons r0
  obtain ⟨v2, vs2, d2, ds2, p2, q2, rfl, rfl, rfl, h2, r2⟩ := trodAll_cons r1
  obtain ⟨v3, vs3, d3, ds3, p3, q3, rfl, rfl, rfl, h3, r3⟩ := trodAll_cons r2
  obtain ⟨rfl, rfl, rfl⟩ := trodAll_nil r3
  obtain rfl : args = #[v0, v1, v2, v3] := by cases args; simp_all
  obtain ⟨rfl, rfl⟩ := trodVars_none hV
  have k0 := h0
  have lt0 : ∀ x ∈ p0, x.block < W.heap.size := by obtain ⟨m, hm⟩ := k0; exact DataW.trod_lt m _ _ _ hm
  obtain ⟨a0, len0, cap0, rfl⟩ := okWide_slice Try.underlying22 (hval 0 22 v0 rfl rfl)
  have y0 : len0 * 8 ≤ 140737488351232 := Go.Proofs.YtbbgkelcdooabaaW.PrintWords.sized_ints hsz (j := 0) (t := 22) rfl rfl Try.underlying22 Try.underlying35 (by kernel_rfl) (by kernel_rfl) h0
  obtain ⟨m0, z0⟩ := h0
  obtain ⟨A0, c0, l0, he0, hr0, hc0, hm0, hw0⟩ := Own.row_of (P := Try.prog) (v := .slice a0 len0 cap0) Try.underlying22 Try.underlying35 (by kernel_rfl) (by simpa [Value.cells] using z0)
  obtain ⟨rfl, rfl, rfl⟩ := Value.slice.inj he0
  have k1 := h1
  have lt1 : ∀ x ∈ p1, x.block < W.heap.size := by obtain ⟨m, hm⟩ := k1; exact DataW.trod_lt m _ _ _ hm
  obtain ⟨m1, z1⟩ := h1
  obtain ⟨a1, rfl⟩ := okWide_int Try.underlying3 (hval 1 3 v1 rfl rfl)
  obtain ⟨b1, hb1, w1⟩ := Own.int_of (P := Try.prog) (v := .int .i64 a1) Try.underlying3 (by simpa [Value.cells] using z1)
  obtain ⟨_, rfl⟩ := Value.int.inj hb1
  have k2 := h2
  have lt2 : ∀ x ∈ p2, x.block < W.heap.size := by obtain ⟨m, hm⟩ := k2; exact DataW.trod_lt m _ _ _ hm
  obtain ⟨a2, len2, cap2, rfl⟩ := okWide_slice Try.underlying34 (hval 2 34 v2 rfl rfl)
  have y2 : len2 * 8 ≤ 140737488351232 := Go.Proofs.YtbbgkelcdooabaaW.PrintWords.sized_ints hsz (j := 2) (t := 34) rfl rfl Try.underlying34 Try.underlying3 (by kernel_rfl) (by kernel_rfl) h2
  obtain ⟨m2, z2⟩ := h2
  obtain ⟨A2, c2, l2, he2, hr2, hc2, hm2, hw2⟩ := Own.row_of (P := Try.prog) (v := .slice a2 len2 cap2) Try.underlying34 Try.underlying3 (by kernel_rfl) (by simpa [Value.cells] using z2)
  obtain ⟨rfl, rfl, rfl⟩ := Value.slice.inj he2
  have k3 := h3
  have lt3 : ∀ x ∈ p3, x.block < W.heap.size := by obtain ⟨m, hm⟩ := k3; exact DataW.trod_lt m _ _ _ hm
  obtain ⟨m3, z3⟩ := h3
  obtain ⟨a3, rfl⟩ := okWide_int Try.underlying35 (hval 3 35 v3 rfl rfl)
  obtain ⟨b3, hb3, w3⟩ := Own.int_of (P := Try.prog) (v := .int .u64 a3) Try.underlying35 (by simpa [Value.cells] using z3)
  obtain ⟨_, rfl⟩ := Value.int.inj hb3
  clear hA0 hval0 hsz0 hsz
  have hP := Pure.FramesLocals l0 a1 l2 a3 hm0 y0 hw0 w1 hm2 y2 hw2 w3
  refine (G.avocetlaw17_FramesLocals.calls (r := true) (w := W) (hr0 := hr0) (hc0 := hc0) (hr2 := hr2) (hc2 := hc2) (hr_ := rfl) (h := hP)).mono fun e W' ⟨he, bel⟩ => ?_
  subst he
  exact ⟨_, rfl, _, _, _, [], _, [], hW', trodAll_mk1 (shut_bool Try.underlying4 _), (trodAll_cons_mk (Below.trod laidOut (by kernel_rfl) (of_decide_eq_true (by kernel_rfl)) k0 bel lt0) (trodAll_cons_mk (Below.trod laidOut (by kernel_rfl) (of_decide_eq_true (by kernel_rfl)) k1 bel lt1) (trodAll_cons_mk (Below.trod laidOut (by kernel_rfl) (of_decide_eq_true (by kernel_rfl)) k2 bel lt2) (trodAll_cons_mk (Below.trod laidOut (by kernel_rfl) (of_decide_eq_true (by kernel_rfl)) k3 bel lt3) trodAll_mk0)))), rfl, bel.frame _, fun h => by cases h⟩
theorem over : Rows.framesLocalsRow.holds Try.pinned (OpenSpec.ofChange Rows.framesLocalsSpec) :=
  OpenClaim.holds_of_wide 4 Try.f4 rfl rfl rfl rfl rfl rfl rfl ⟨rfl, rfl, rfl, rfl, rfl⟩ rfl rfl rfl rfl rfl (by kernel_rfl) Try.func4 (by kernel_rfl)
    (of_decide_eq_true (by kernel_rfl)) (by unfold Func.isWrapper; first | (rw [if_pos (by decide +kernel)]; kernel_rfl) | (rw [if_neg (by decide +kernel)]; exact ⟨rfl, rfl⟩))
    (fun os started H enc _ => lifted os started H enc)
theorem proved : Rows.FramesLocalsSaid := over
#print axioms proved
end Go.Proofs.Ytbbgkelcdooabaa.framesLocals
namespace Go.Proofs.Ytbbgkelcdooabaa
/-- The row, under a short name, for the claim. -/
theorem framesLocals_holds : Rows.FramesLocalsSaid := framesLocals.proved
end Go.Proofs.Ytbbgkelcdooabaa
