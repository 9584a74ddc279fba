-- Made by lawrow.py (mine), after the rows that the kit's print writes; parts of it typed by hand.
import Derived.Test.YtbbgkelcdooabaaRows
import Derived.Test.YtbbgkelcdooabaaG95
import Derived.Test.YtbbgkelcdooabaaPureFramesLoad
import Derived.Test.YtbbgkelcdooabaaRow
import Derived.Test.YtbbgkelcdooabaaOpen
import Derived.WalkKit
import Derived.ProofKit
import Derived.OpenShut
import Derived.ShutString
import Derived.ChangeOld
import Derived.Below
import Derived.SizedLaws
import Derived.Test.YtbbgkelcdooabaaWSized
namespace Go.Proofs.Ytbbgkelcdooabaa.framesLoad
open Go.ChangeShapes Go.WideShapes Go.ChangeAt Go.RowKit Go.Proofs.Ytbbgkelcdooabaa.G
open Go.ChangeMaps (open_string shut_string)
set_option linter.unusedVariables false
theorem own : ownKnob Try.prog.godebug = none := by kernel_rfl
theorem laidOut : laidOutB Try.prog = true := by kernel_rfl
set_option maxRecDepth 100000 in
theorem lifted (os : Os) (started : os.Started) (H : Type) (enc : TypeId × Value → H) :
    ReturnsInHanded {} Try.checked os 8 .any (Rows.framesLoadSpec.pre6 enc Try.prog Try.f8 Rows.framesLoadRow.domain false) (Rows.framesLoadSpec.post enc Try.prog Try.f8 false true false false) := by
  refine returnsInHanded_of_change_sized (C := Try.checked) own started (by kernel_rfl) Try.func8
    (ChangeSpec.witness6 (enc := enc) (C := Try.checked) false ⟨#[], #[.int .i64 0, .slice none 0 0, .slice none 0 0, .slice none 0 0], []⟩ 8 (by kernel_rfl) (by kernel_rfl) (by kernel_rfl) (by kernel_rfl)) ?_
  intro W base args ds gs before hval0 hW hcnd hsz0 _
  have hsz : (DataW.weightsEach Try.prog (Try.f8.params.toList ++ Rows.framesLoadSpec.plain.varTypes Try.prog) (ds ++ gs)).all (· ≤ reachBytes) = true := hsz0
  have hval : ∀ (j : Nat) t v, Try.f8.params[j]? = some t → args[j]? = some v → Value.okWide Try.prog W .any base t v := hval0
  have hW' := hW
  obtain ⟨p, q, hA0, hV, rfl, hfz, hnd⟩ := hW
  have hA : DataW.TrodAll enc Try.prog W 0 (fun _ => true) true Try.f8.params.toList args.toList ds p := hA0
  rw [Try.params8] at hA hval hsz
  obtain ⟨v0, vs0, d0, ds0, p0, q0, hargs, rfl, rfl, h0, r0⟩ := trodAll_cons hA
  obtain ⟨v1, vs1, d1, ds1, p1, q1, rfl, rfl, rfl, h1, r1⟩ := trodAll_cons r0
  obtain ⟨v2, vs2, d2, ds2, p2, q2, rfl, rfl, rfl, h2, r2⟩ := trodAll_cons r1
  obtain ⟨v3, vs3, d3, ds3, p3, q3, rfl, rfl, rfl, h3, r3⟩ := trodAll_cons r2
  obtain ⟨rfl, rfl, rfl⟩ := trodAll_nil r3
  obtain rfl : args = #[v0, v1, v2, v3] := by cases args; simp_all
  obtain ⟨rfl, rfl⟩ := trodVars_none hV
  have k0 := h0
  have lt0 : ∀ x ∈ p0, x.block < W.heap.size := by obtain ⟨m, hm⟩ := k0; exact DataW.trod_lt m _ _ _ hm
  obtain ⟨m0, z0⟩ := h0
  obtain ⟨a0, rfl⟩ := okWide_int Try.underlying3 (hval 0 3 v0 rfl rfl)
  obtain ⟨b0, hb0, w0⟩ := Own.int_of (P := Try.prog) (v := .int .i64 a0) Try.underlying3 (by simpa [Value.cells] using z0)
  obtain ⟨_, rfl⟩ := Value.int.inj hb0
  have k1 := h1
  have lt1 : ∀ x ∈ p1, x.block < W.heap.size := by obtain ⟨m, hm⟩ := k1; exact DataW.trod_lt m _ _ _ hm
  obtain ⟨b1, len1, cap1, rfl⟩ := okWide_slice Try.underlying40 (hval 1 40 v1 rfl rfl)
  obtain ⟨m1, z1⟩ := h1
  obtain ⟨A1, c1, l1, he1, hr1, hc1, hm1, hw1⟩ := Own.slice_of (P := Try.prog) (v := .slice b1 len1 cap1) (d := k44) (Wf := fun z => Own.wf44 z) Try.underlying40 (by kernel_rfl) (by decide) (fun _ _ _ h => Own.op_T44 h) (by simpa [Value.cells] using z1)
  obtain ⟨rfl, rfl, rfl⟩ := Value.slice.inj he1
  have k2 := h2
  have lt2 : ∀ x ∈ p2, x.block < W.heap.size := by obtain ⟨m, hm⟩ := k2; exact DataW.trod_lt m _ _ _ hm
  obtain ⟨b2, len2, cap2, rfl⟩ := okWide_slice Try.underlying49 (hval 2 49 v2 rfl rfl)
  obtain ⟨m2, z2⟩ := h2
  obtain ⟨A2, c2, l2, he2, hr2, hc2, hm2, hw2⟩ := Own.slice_of (P := Try.prog) (v := .slice b2 len2 cap2) (d := k61) (Wf := fun z => Own.wf61 z) Try.underlying49 (by kernel_rfl) (by decide) (fun _ _ _ h => Own.op_T61 h) (by simpa [Value.cells] using z2)
  obtain ⟨rfl, rfl, rfl⟩ := Value.slice.inj he2
  have k3 := h3
  have lt3 : ∀ x ∈ p3, x.block < W.heap.size := by obtain ⟨m, hm⟩ := k3; exact DataW.trod_lt m _ _ _ hm
  obtain ⟨a3, len3, cap3, rfl⟩ := okWide_slice Try.underlying22 (hval 3 22 v3 rfl rfl)
  have y3 : len3 * 8 ≤ 140737488351232 := Go.Proofs.YtbbgkelcdooabaaW.PrintWords.sized_ints hsz (j := 3) (t := 22) rfl rfl Try.underlying22 Try.underlying35 (by kernel_rfl) (by kernel_rfl) h3
  obtain ⟨m3, z3⟩ := h3
  obtain ⟨A3, c3, l3, he3, hr3, hc3, hm3, hw3⟩ := Own.row_of (P := Try.prog) (v := .slice a3 len3 cap3) Try.underlying22 Try.underlying35 (by kernel_rfl) (by simpa [Value.cells] using z3)
  obtain ⟨rfl, rfl, rfl⟩ := Value.slice.inj he3
  clear hA0 hval0 hsz0 hsz
  have hP := Pure.FramesLoad a0 l1 l2 l3 w0 hm1 hw1 hm2 hw2 hm3 y3 hw3
  refine (G.avocetlaw17_FramesLoad.calls (r := true) (w := W) (hr1 := hr1) (hc1 := hc1) (hr2 := hr2) (hc2 := hc2) (hr3 := hr3) (hc3 := hc3) (hr_ := rfl) (h := hP)).mono fun e W' ⟨he, bel⟩ => ?_
  subst he
  exact ⟨_, rfl, _, _, _, [], _, [], hW', trodAll_mk1 (shut_bool Try.underlying4 _), (trodAll_cons_mk (Below.trod laidOut (by kernel_rfl) (of_decide_eq_true (by kernel_rfl)) k0 bel lt0) (trodAll_cons_mk (Below.trod laidOut (by kernel_rfl) (of_decide_eq_true (by kernel_rfl)) k1 bel lt1) (trodAll_cons_mk (Below.trod laidOut (by kernel_rfl) (of_decide_eq_true (by kernel_rfl)) k2 bel lt2) (trodAll_cons_mk (Below.trod laidOut (by kernel_rfl) (of_decide_eq_true (by kernel_rfl)) k3 bel lt3) trodAll_mk0)))), rfl, bel.frame _, fun h => by cases h⟩
theorem over : Rows.framesLoadRow.holds Try.pinned (OpenSpec.ofChange Rows.framesLoadSpec) :=
  OpenClaim.holds_of_wide 8 Try.f8 rfl rfl rfl rfl rfl rfl rfl ⟨rfl, rfl, rfl, rfl, rfl⟩ rfl rfl rfl rfl rfl (by kernel_rfl) Try.func8 (by kernel_rfl)
    (of_decide_eq_true (by kernel_rfl)) (by unfold Func.isWrapper; first | (rw [if_pos (by decide +kernel)]; kernel_rfl) | (rw [if_neg (by decide +kernel)]; exact ⟨rfl, rfl⟩))
    (fun os started H enc _ => lifted os started H enc)
theorem proved : Rows.FramesLoadSaid := over
#print axioms proved
end Go.Proofs.Ytbbgkelcdooabaa.framesLoad
namespace Go.Proofs.Ytbbgkelcdooabaa
/-- The row, under a short name, for the claim. -/
theorem framesLoad_holds : Rows.FramesLoadSaid := framesLoad.proved
end Go.Proofs.Ytbbgkelcdooabaa
