-- Made by lawrow.py (mine), after the rows that the kit's print writes; parts of it typed by hand. Turned to a row with 'laid' and its card by dlaw.py (mine).
import Derived.Test.YtffoolhfjomhhaaDoorRows
import Derived.Test.YtffoolhfjomhhaaDoorLaid
import Derived.Test.YtffoolhfjomhhaaDoorCards
import Derived.Test.YtffoolhfjomhhaaDoorTie
import Derived.Handed
import Derived.Stop.Joined
import Derived.SevenTiedAt
import Derived.Test.YtffoolhfjomhhaaDoorG93
import Derived.Test.YtffoolhfjomhhaaDoorPureMemoryBack
import Derived.Test.YtffoolhfjomhhaaDoorRow
import Derived.WalkKit
import Derived.ProofKit
import Derived.OpenShut
import Derived.ShutString
import Derived.ChangeOld
import Derived.Below
import Derived.SizedLaws
import Derived.Test.YtffoolhfjomhhaaDoorWSized
namespace Go.Proofs.YtffoolhfjomhhaaDoor.memoryBack
open Go.ChangeShapes Go.WideShapes Go.ChangeAt Go.RowKit Go.Proofs.YtffoolhfjomhhaaDoor.G
open Go.ChangeMaps (open_string shut_string)
set_option linter.unusedVariables false
theorem own : ownKnob Tryd.prog.godebug = none := by kernel_rfl
theorem laidOut : laidOutB Tryd.prog = true := by kernel_rfl
set_option maxRecDepth 100000 in
theorem lifted (os : Os) (started : os.Started) (H : Type) (enc : TypeId × Value → H) :
    ReturnsInHanded {} Tryd.checked os 4 .any (fun w args => (Rows.memoryBackSpec.pre enc Tryd.prog Tryd.f4 [] false w args ∧ laidMetH Tryd.prog Rows.memoryBackRow.laid w) ∧ sizedMet enc Tryd.prog Tryd.f4 (OpenSpec.ofChange Rows.memoryBackSpec) false w args) (Rows.memoryBackSpec.post enc Tryd.prog Tryd.f4 false true false false) := by
  refine returnsInHanded_of_change_and (C := Tryd.checked) (X := fun w _ => laidMetH Tryd.prog Rows.memoryBackRow.laid w) (fun _ _ _ hh h => h.of_heap hh) own started (by kernel_rfl) Tryd.func4
    (ChangeSpec.witness_at (enc := enc) (C := Tryd.checked) (os := os) (X := fun w _ => laidMetH Tryd.prog Rows.memoryBackRow.laid w) false (G.laidWorld os) #[.int .i64 0, .int .u64 0, .int .u64 0, .int .u64 0, .slice none 0 0] 8 rfl (by kernel_rfl) (by kernel_rfl) (by kernel_rfl) (by kernel_rfl) (by kernel_rfl) (G.laid_met os _)) ?_
  intro W base args ds gs before hval0 hW hcnd hsz0 hL _
  have hGl : G.Globs W := G.globs_of_laid hL
  have hsz : (DataW.weightsEach Tryd.prog (Tryd.f4.params.toList ++ Rows.memoryBackSpec.plain.varTypes Tryd.prog) (ds ++ gs)).all (· ≤ reachBytes) = true := hsz0
  have hval : ∀ (j : Nat) t v, Tryd.f4.params[j]? = some t → args[j]? = some v → Value.okWide Tryd.prog W .any base t v := hval0
  have hW' := hW
  obtain ⟨p, q, hA0, hV, rfl, hfz, hnd⟩ := hW
  have hA : DataW.TrodAll enc Tryd.prog W 0 (fun _ => true) true Tryd.f4.params.toList args.toList ds p := hA0
  rw [Tryd.params4] at hA hval hsz
  obtain ⟨v0, vs0, d0, ds0, p0, q0, hargs, rfl, rfl, h0, r0⟩ := trodAll_cons hA
  obtain ⟨v1, vs1, d1, ds1, p1, q1, rfl, rfl, rfl, h1, r1⟩ := trodAll_cons r0
  obtain ⟨v2, vs2, d2, ds2, p2, q2, rfl, rfl, rfl, h2, r2⟩ := trodAll_cons r1
  obtain ⟨v3, vs3, d3, ds3, p3, q3, rfl, rfl, rfl, h3, r3⟩ := trodAll_cons r2
  obtain ⟨v4, vs4, d4, ds4, p4, q4, rfl, rfl, rfl, h4, r4⟩ := trodAll_cons r3
  obtain ⟨rfl, rfl, rfl⟩ := trodAll_nil r4
  obtain rfl : args = #[v0, v1, v2, v3, v4] := by cases args; simp_all
  obtain ⟨rfl, rfl⟩ := trodVars_none hV
  have k0 := h0
  have lt0 : ∀ x ∈ p0, x.block < W.heap.size := by obtain ⟨m, hm⟩ := k0; exact DataW.trod_lt m _ _ _ hm
  obtain ⟨m0, z0⟩ := h0
  obtain ⟨a0, rfl⟩ := okWide_int Tryd.underlying3 (hval 0 3 v0 rfl rfl)
  obtain ⟨b0, hb0, w0⟩ := Own.int_of (P := Tryd.prog) (v := .int .i64 a0) Tryd.underlying3 (by simpa [Value.cells] using z0)
  obtain ⟨_, rfl⟩ := Value.int.inj hb0
  have k1 := h1
  have lt1 : ∀ x ∈ p1, x.block < W.heap.size := by obtain ⟨m, hm⟩ := k1; exact DataW.trod_lt m _ _ _ hm
  obtain ⟨m1, z1⟩ := h1
  obtain ⟨a1, rfl⟩ := okWide_int Tryd.underlying22 (hval 1 22 v1 rfl rfl)
  obtain ⟨b1, hb1, w1⟩ := Own.int_of (P := Tryd.prog) (v := .int .u64 a1) Tryd.underlying22 (by simpa [Value.cells] using z1)
  obtain ⟨_, rfl⟩ := Value.int.inj hb1
  have k2 := h2
  have lt2 : ∀ x ∈ p2, x.block < W.heap.size := by obtain ⟨m, hm⟩ := k2; exact DataW.trod_lt m _ _ _ hm
  obtain ⟨m2, z2⟩ := h2
  obtain ⟨a2, rfl⟩ := okWide_int Tryd.underlying22 (hval 2 22 v2 rfl rfl)
  obtain ⟨b2, hb2, w2⟩ := Own.int_of (P := Tryd.prog) (v := .int .u64 a2) Tryd.underlying22 (by simpa [Value.cells] using z2)
  obtain ⟨_, rfl⟩ := Value.int.inj hb2
  have k3 := h3
  have lt3 : ∀ x ∈ p3, x.block < W.heap.size := by obtain ⟨m, hm⟩ := k3; exact DataW.trod_lt m _ _ _ hm
  obtain ⟨m3, z3⟩ := h3
  obtain ⟨a3, rfl⟩ := okWide_int Tryd.underlying22 (hval 3 22 v3 rfl rfl)
  obtain ⟨b3, hb3, w3⟩ := Own.int_of (P := Tryd.prog) (v := .int .u64 a3) Tryd.underlying22 (by simpa [Value.cells] using z3)
  obtain ⟨_, rfl⟩ := Value.int.inj hb3
  have k4 := h4
  have lt4 : ∀ x ∈ p4, x.block < W.heap.size := by obtain ⟨m, hm⟩ := k4; exact DataW.trod_lt m _ _ _ hm
  obtain ⟨a4, len4, cap4, rfl⟩ := okWide_slice Tryd.underlying39 (hval 4 39 v4 rfl rfl)
  have y4 : len4 * 1 ≤ 140737488351232 := Go.Proofs.YtffoolhfjomhhaaDoorW.PrintWords.sized_ints hsz (j := 4) (t := 39) rfl rfl Tryd.underlying39 Tryd.underlying5 (by kernel_rfl) (by kernel_rfl) h4
  obtain ⟨m4, z4⟩ := h4
  obtain ⟨A4, c4, l4, he4, hr4, hc4, hm4, hw4⟩ := Own.row_of (P := Tryd.prog) (v := .slice a4 len4 cap4) Tryd.underlying39 Tryd.underlying5 (by kernel_rfl) (by simpa [Value.cells] using z4)
  obtain ⟨rfl, rfl, rfl⟩ := Value.slice.inj he4
  clear hA0 hval0 hsz0 hsz
  have hP := Pure.MemoryBack a0 a1 a2 a3 l4 w0 w1 w2 w3 hm4 y4 hw4
  refine (G.avocetlaw13_MemoryBack.calls (r := true) (w := W) (hr4 := hr4) (hc4 := hc4) (hr_ := rfl) (hG := hGl) (h := hP)).mono fun e W' ⟨he, bel⟩ => ?_
  subst he
  exact ⟨_, rfl, _, _, _, [], _, [], hW', trodAll_mk1 (shut_bool Tryd.underlying4 _), (trodAll_cons_mk (Below.trod laidOut (by kernel_rfl) (of_decide_eq_true (by kernel_rfl)) k0 bel lt0) (trodAll_cons_mk (Below.trod laidOut (by kernel_rfl) (of_decide_eq_true (by kernel_rfl)) k1 bel lt1) (trodAll_cons_mk (Below.trod laidOut (by kernel_rfl) (of_decide_eq_true (by kernel_rfl)) k2 bel lt2) (trodAll_cons_mk (Below.trod laidOut (by kernel_rfl) (of_decide_eq_true (by kernel_rfl)) k3 bel lt3) (trodAll_cons_mk (Below.trod laidOut (by kernel_rfl) (of_decide_eq_true (by kernel_rfl)) k4 bel lt4) trodAll_mk0))))), rfl, bel.frame _, fun h => by cases h⟩
theorem over : Rows.memoryBackRow.holds Tryd.pinned (OpenSpec.ofChange Rows.memoryBackSpec) :=
  OpenClaim.holds_of_wide 4 Tryd.f4 rfl rfl rfl rfl rfl rfl rfl ⟨rfl, rfl, rfl, rfl, rfl⟩ rfl rfl rfl rfl rfl (by kernel_rfl) Tryd.func4 (by kernel_rfl)
    (of_decide_eq_true (by kernel_rfl)) (by unfold Func.isWrapper; first | (rw [if_pos (by decide +kernel)]; kernel_rfl) | (rw [if_neg (by decide +kernel)]; exact ⟨rfl, rfl⟩))
    (fun os started H enc _ => lifted os started H enc)
theorem proved : Rows.MemoryBackSaid := over
theorem card : Rows.MemoryBackCardSaid :=
  Claim7.holds_tied_plain_at .later [] [.data] true (true, "23b5ff39f306393c932520e6301a303b86dd231dff91a3640089823e546edf1f") false
    over (fun _ h => by cases h) (by kernel_rfl) (fun _ h => by cases h) memoryBack_row_tie rfl ⟨rfl, rfl⟩ (by kernel_rfl) rfl
    (fun f fn hf hfn => by
      obtain rfl : f = 4 := Option.some.inj ((show Tryd.prog.funcNamed "avocet/avocetlaw13.MemoryBack" = some 4 by kernel_rfl).symm.trans hf) |>.symm
      obtain rfl : fn = Tryd.f4 := (Option.some.inj (Tryd.func4.symm.trans hfn)).symm
      exact ⟨by kernel_rfl, fun j t ht => by
        rw [Tryd.params4] at ht
        match j, ht with
        | 0, ht =>
          obtain rfl : (3 : Nat) = t := by simpa using ht
          exact (show Tryd.prog.wantsStandIn 3 = false by kernel_rfl)
        | 1, ht =>
          obtain rfl : (22 : Nat) = t := by simpa using ht
          exact (show Tryd.prog.wantsStandIn 22 = false by kernel_rfl)
        | 2, ht =>
          obtain rfl : (22 : Nat) = t := by simpa using ht
          exact (show Tryd.prog.wantsStandIn 22 = false by kernel_rfl)
        | 3, ht =>
          obtain rfl : (22 : Nat) = t := by simpa using ht
          exact (show Tryd.prog.wantsStandIn 22 = false by kernel_rfl)
        | 4, ht =>
          obtain rfl : (39 : Nat) = t := by simpa using ht
          exact (show Tryd.prog.wantsStandIn 39 = false by kernel_rfl)
        | j + 5, ht => simp at ht⟩)
    (by kernel_rfl)
#print axioms card
end Go.Proofs.YtffoolhfjomhhaaDoor.memoryBack
namespace Go.Proofs.YtffoolhfjomhhaaDoor
/-- The card, under a short name, for the claim. -/
theorem memoryBack_holds : Rows.MemoryBackCardSaid := memoryBack.card
end Go.Proofs.YtffoolhfjomhhaaDoor
