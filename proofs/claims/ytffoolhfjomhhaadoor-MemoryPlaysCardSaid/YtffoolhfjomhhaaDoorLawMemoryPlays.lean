-- Made by lawrow.py (mine), after the rows that the kit's print writes; parts of it typed by hand. Turned to a row with 'laid' and its card by dlaw.py (mine).
import Derived.Test.YtffoolhfjomhhaaDoorRows
import Derived.Test.YtffoolhfjomhhaaDoorLaid
import Derived.Test.YtffoolhfjomhhaaDoorCards
import Derived.Test.YtffoolhfjomhhaaDoorTie
import Derived.Handed
import Derived.Stop.Joined
import Derived.SevenTiedAt
import Derived.Test.YtffoolhfjomhhaaDoorG95
import Derived.Test.YtffoolhfjomhhaaDoorPureMemoryPlays
import Derived.Test.YtffoolhfjomhhaaDoorRow
import Derived.Test.YtffoolhfjomhhaaDoorOpen
import Derived.WalkKit
import Derived.ProofKit
import Derived.OpenShut
import Derived.ShutString
import Derived.ChangeOld
import Derived.Below
import Derived.SizedLaws
import Derived.Test.YtffoolhfjomhhaaDoorWSized
namespace Go.Proofs.YtffoolhfjomhhaaDoor.memoryPlays
open Go.ChangeShapes Go.WideShapes Go.ChangeAt Go.RowKit Go.Proofs.YtffoolhfjomhhaaDoor.G
open Go.ChangeMaps (open_string shut_string)
set_option linter.unusedVariables false
theorem own : ownKnob Tryd.prog.godebug = none := by kernel_rfl
theorem laidOut : laidOutB Tryd.prog = true := by kernel_rfl
set_option maxRecDepth 100000 in
theorem lifted (os : Os) (started : os.Started) (H : Type) (enc : TypeId × Value → H) :
    ReturnsInHanded {} Tryd.checked os 8 .any (fun w args => (Rows.memoryPlaysSpec.pre enc Tryd.prog Tryd.f8 [] false w args ∧ laidMetH Tryd.prog Rows.memoryPlaysRow.laid w) ∧ sizedMet enc Tryd.prog Tryd.f8 (OpenSpec.ofChange Rows.memoryPlaysSpec) false w args) (Rows.memoryPlaysSpec.post enc Tryd.prog Tryd.f8 false true false false) := by
  refine returnsInHanded_of_change_and (C := Tryd.checked) (X := fun w _ => laidMetH Tryd.prog Rows.memoryPlaysRow.laid w) (fun _ _ _ hh h => h.of_heap hh) own started (by kernel_rfl) Tryd.func8
    (ChangeSpec.witness_at (enc := enc) (C := Tryd.checked) (os := os) (X := fun w _ => laidMetH Tryd.prog Rows.memoryPlaysRow.laid w) false (G.laidWorld os) #[.agg #[.int .i64 0, .int .i64 0, .bool false], .slice none 0 0] 8 rfl (by kernel_rfl) (by kernel_rfl) (by kernel_rfl) (by kernel_rfl) (by kernel_rfl) (G.laid_met os _)) ?_
  intro W base args ds gs before hval0 hW hcnd hsz0 hL _
  have hGl : G.Globs W := G.globs_of_laid hL
  have hsz : (DataW.weightsEach Tryd.prog (Tryd.f8.params.toList ++ Rows.memoryPlaysSpec.plain.varTypes Tryd.prog) (ds ++ gs)).all (· ≤ reachBytes) = true := hsz0
  have hval : ∀ (j : Nat) t v, Tryd.f8.params[j]? = some t → args[j]? = some v → Value.okWide Tryd.prog W .any base t v := hval0
  have hW' := hW
  obtain ⟨p, q, hA0, hV, rfl, hfz, hnd⟩ := hW
  have hA : DataW.TrodAll enc Tryd.prog W 0 (fun _ => true) true Tryd.f8.params.toList args.toList ds p := hA0
  rw [Tryd.params8] at hA hval hsz
  obtain ⟨v0, vs0, d0, ds0, p0, q0, hargs, rfl, rfl, h0, r0⟩ := trodAll_cons hA
  obtain ⟨v1, vs1, d1, ds1, p1, q1, rfl, rfl, rfl, h1, r1⟩ := trodAll_cons r0
  obtain ⟨rfl, rfl, rfl⟩ := trodAll_nil r1
  obtain rfl : args = #[v0, v1] := by cases args; simp_all
  obtain ⟨rfl, rfl⟩ := trodVars_none hV
  have k0 := h0
  have lt0 : ∀ x ∈ p0, x.block < W.heap.size := by obtain ⟨m, hm⟩ := k0; exact DataW.trod_lt m _ _ _ hm
  obtain ⟨v0_0, v0_1, v0_2, y0_0, y0_1, y0_2, m0, rfl, hd0, hp0, z0_0, z0_1, z0_2⟩ := Go.Joins.open_agg3 Tryd.underlying29 (by kernel_rfl) (by kernel_rfl) (hval 0 29 v0 rfl rfl) h0
  obtain ⟨a0_0, rfl, w0_0⟩ := Own.int_of (P := Tryd.prog) Tryd.underlying3 z0_0
  obtain ⟨a0_1, rfl, w0_1⟩ := Own.int_of (P := Tryd.prog) Tryd.underlying3 z0_1
  obtain ⟨a0_2, rfl⟩ := Own.bool_of (P := Tryd.prog) Tryd.underlying4 z0_2
  have k1 := h1
  have lt1 : ∀ x ∈ p1, x.block < W.heap.size := by obtain ⟨m, hm⟩ := k1; exact DataW.trod_lt m _ _ _ hm
  obtain ⟨b1, len1, cap1, rfl⟩ := okWide_slice Tryd.underlying50 (hval 1 50 v1 rfl rfl)
  obtain ⟨m1, z1⟩ := h1
  obtain ⟨A1, c1, l1, he1, hr1, hc1, hm1, hw1⟩ := Own.slice_of (P := Tryd.prog) (v := .slice b1 len1 cap1) (d := k57) (Wf := fun z => Own.wf57 z) Tryd.underlying50 (by kernel_rfl) (by decide) (fun _ _ _ h => Own.op_T57 h) (by simpa [Value.cells] using z1)
  obtain ⟨rfl, rfl, rfl⟩ := Value.slice.inj he1
  clear hA0 hval0 hsz0 hsz
  have hP := Pure.MemoryPlays a0_0 a0_1 a0_2 l1 w0_0 w0_1 hm1 hw1
  refine (G.avocetlaw13_MemoryPlays.calls (r := true) (w := W) (hr1 := hr1) (hc1 := hc1) (hr_ := rfl) (hG := hGl) (h := hP)).mono fun e W' ⟨he, bel⟩ => ?_
  subst he
  exact ⟨_, rfl, _, _, _, [], _, [], hW', trodAll_mk1 (shut_bool Tryd.underlying4 _), (trodAll_cons_mk (Below.trod laidOut (by kernel_rfl) (of_decide_eq_true (by kernel_rfl)) k0 bel lt0) (trodAll_cons_mk (Below.trod laidOut (by kernel_rfl) (of_decide_eq_true (by kernel_rfl)) k1 bel lt1) trodAll_mk0)), rfl, bel.frame _, fun h => by cases h⟩
theorem over : Rows.memoryPlaysRow.holds Tryd.pinned (OpenSpec.ofChange Rows.memoryPlaysSpec) :=
  OpenClaim.holds_of_wide 8 Tryd.f8 rfl rfl rfl rfl rfl rfl rfl ⟨rfl, rfl, rfl, rfl, rfl⟩ rfl rfl rfl rfl rfl (by kernel_rfl) Tryd.func8 (by kernel_rfl)
    (of_decide_eq_true (by kernel_rfl)) (by unfold Func.isWrapper; first | (rw [if_pos (by decide +kernel)]; kernel_rfl) | (rw [if_neg (by decide +kernel)]; exact ⟨rfl, rfl⟩))
    (fun os started H enc _ => lifted os started H enc)
theorem proved : Rows.MemoryPlaysSaid := over
theorem card : Rows.MemoryPlaysCardSaid :=
  Claim7.holds_tied_plain_at .later [] [.data] true (true, "23b5ff39f306393c932520e6301a303b86dd231dff91a3640089823e546edf1f") false
    over (fun _ h => by cases h) (by kernel_rfl) (fun _ h => by cases h) memoryPlays_row_tie rfl ⟨rfl, rfl⟩ (by kernel_rfl) rfl
    (fun f fn hf hfn => by
      obtain rfl : f = 8 := Option.some.inj ((show Tryd.prog.funcNamed "avocet/avocetlaw13.MemoryPlays" = some 8 by kernel_rfl).symm.trans hf) |>.symm
      obtain rfl : fn = Tryd.f8 := (Option.some.inj (Tryd.func8.symm.trans hfn)).symm
      exact ⟨by kernel_rfl, fun j t ht => by
        rw [Tryd.params8] at ht
        match j, ht with
        | 0, ht =>
          obtain rfl : (29 : Nat) = t := by simpa using ht
          exact (show Tryd.prog.wantsStandIn 29 = false by kernel_rfl)
        | 1, ht =>
          obtain rfl : (50 : Nat) = t := by simpa using ht
          exact (show Tryd.prog.wantsStandIn 50 = false by kernel_rfl)
        | j + 2, ht => simp at ht⟩)
    (by kernel_rfl)
#print axioms card
end Go.Proofs.YtffoolhfjomhhaaDoor.memoryPlays
namespace Go.Proofs.YtffoolhfjomhhaaDoor
/-- The card, under a short name, for the claim. -/
theorem memoryPlays_holds : Rows.MemoryPlaysCardSaid := memoryPlays.card
end Go.Proofs.YtffoolhfjomhhaaDoor
