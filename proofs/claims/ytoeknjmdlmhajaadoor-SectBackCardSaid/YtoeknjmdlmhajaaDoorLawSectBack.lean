-- Made by lawrow.py (mine), after the rows that the kit's print writes; parts of it typed by hand. Turned to a row with 'laid' and its card by dlaw.py (mine).
import Derived.Test.YtoeknjmdlmhajaaDoorRows
import Derived.Test.YtoeknjmdlmhajaaDoorLaid
import Derived.Test.YtoeknjmdlmhajaaDoorCards
import Derived.Test.YtoeknjmdlmhajaaDoorTie
import Derived.Handed
import Derived.Stop.Joined
import Derived.SevenTiedAt
import Derived.Test.YtoeknjmdlmhajaaDoorG4
import Derived.Test.YtoeknjmdlmhajaaDoorPureSectBack
import Derived.Test.YtoeknjmdlmhajaaDoorRow
import Derived.Test.YtoeknjmdlmhajaaDoorOpen
import Derived.WalkKit
import Derived.ProofKit
import Derived.OpenShut
import Derived.ShutString
import Derived.ChangeOld
import Derived.Below
import Derived.SizedLaws
import Derived.Test.YtoeknjmdlmhajaaDoorWSized
namespace Go.Proofs.YtoeknjmdlmhajaaDoor.sectBack
open Go.ChangeShapes Go.WideShapes Go.ChangeAt Go.RowKit Go.Proofs.YtoeknjmdlmhajaaDoor.G
open Go.ChangeMaps (open_string shut_string)
set_option linter.unusedVariables false
theorem own : ownKnob Tryd.prog.godebug = none := by kernel_rfl
theorem laidOut : laidOutB Tryd.prog = true := by kernel_rfl
set_option maxRecDepth 100000 in
theorem lifted (os : Os) (started : os.Started) (H : Type) (enc : TypeId × Value → H) :
    ReturnsInHanded {} Tryd.checked os 3 .any (fun w args => (Rows.sectBackSpec.pre enc Tryd.prog Tryd.f3 [] false w args ∧ laidMetH Tryd.prog Rows.sectBackRow.laid w) ∧ sizedMet enc Tryd.prog Tryd.f3 (OpenSpec.ofChange Rows.sectBackSpec) false w args) (Rows.sectBackSpec.post enc Tryd.prog Tryd.f3 false true false false) := by
  refine returnsInHanded_of_change_and (C := Tryd.checked) (X := fun w _ => laidMetH Tryd.prog Rows.sectBackRow.laid w) (fun _ _ _ hh h => h.of_heap hh) own started (by kernel_rfl) Tryd.func3
    (ChangeSpec.witness_at (enc := enc) (C := Tryd.checked) (os := os) (X := fun w _ => laidMetH Tryd.prog Rows.sectBackRow.laid w) false (G.laidWorld os) #[.slice none 0 0] 8 rfl (by kernel_rfl) (by kernel_rfl) (by kernel_rfl) (by kernel_rfl) (by kernel_rfl) (G.laid_met os _)) ?_
  intro W base args ds gs before hval0 hW hcnd hsz0 hL _
  have hGl : G.Globs W := G.globs_of_laid hL
  have hsz : (DataW.weightsEach Tryd.prog (Tryd.f3.params.toList ++ Rows.sectBackSpec.plain.varTypes Tryd.prog) (ds ++ gs)).all (· ≤ reachBytes) = true := hsz0
  have hval : ∀ (j : Nat) t v, Tryd.f3.params[j]? = some t → args[j]? = some v → Value.okWide Tryd.prog W .any base t v := hval0
  have hW' := hW
  obtain ⟨p, q, hA0, hV, rfl, hfz, hnd⟩ := hW
  have hA : DataW.TrodAll enc Tryd.prog W 0 (fun _ => true) true Tryd.f3.params.toList args.toList ds p := hA0
  rw [Tryd.params3] at hA hval hsz
  obtain ⟨v0, vs0, d0, ds0, p0, q0, hargs, rfl, rfl, h0, r0⟩ := trodAll_cons hA
  obtain ⟨rfl, rfl, rfl⟩ := trodAll_nil r0
  obtain rfl : args = #[v0] := by cases args; simp_all
  obtain ⟨rfl, rfl⟩ := trodVars_none hV
  have k0 := h0
  have lt0 : ∀ x ∈ p0, x.block < W.heap.size := by obtain ⟨m, hm⟩ := k0; exact DataW.trod_lt m _ _ _ hm
  obtain ⟨b0, len0, cap0, rfl⟩ := okWide_slice Tryd.underlying22 (hval 0 22 v0 rfl rfl)
  obtain ⟨m0, z0⟩ := h0
  obtain ⟨A0, c0, l0, he0, hr0, hc0, hm0, hw0⟩ := Own.slice_of (P := Tryd.prog) (v := .slice b0 len0 cap0) (d := k36) (Wf := fun z => Own.wf36 z) Tryd.underlying22 (by kernel_rfl) (by decide) (fun _ _ _ h => Own.op_T36 h) (by simpa [Value.cells] using z0)
  obtain ⟨rfl, rfl, rfl⟩ := Value.slice.inj he0
  clear hA0 hval0 hsz0 hsz
  have hP := Pure.SectBack l0 hm0 hw0
  obtain ⟨k, hP⟩ := hP
  refine (G.avocetlaw07_SectBack.calls (k := k) (r := true) (w := W) (hr0 := hr0) (hc0 := hc0) (hr_ := rfl) (hG := hGl) (h := hP)).mono fun e W' ⟨he, bel⟩ => ?_
  subst he
  exact ⟨_, rfl, _, _, _, [], _, [], hW', trodAll_mk1 (shut_bool Tryd.underlying4 _), (trodAll_cons_mk (Below.trod laidOut (by kernel_rfl) (of_decide_eq_true (by kernel_rfl)) k0 bel lt0) trodAll_mk0), rfl, bel.frame _, fun h => by cases h⟩
theorem over : Rows.sectBackRow.holds Tryd.pinned (OpenSpec.ofChange Rows.sectBackSpec) :=
  OpenClaim.holds_of_wide 3 Tryd.f3 rfl rfl rfl rfl rfl rfl rfl ⟨rfl, rfl, rfl, rfl, rfl⟩ rfl rfl rfl rfl rfl (by kernel_rfl) Tryd.func3 (by kernel_rfl)
    (of_decide_eq_true (by kernel_rfl)) (by unfold Func.isWrapper; first | (rw [if_pos (by decide +kernel)]; kernel_rfl) | (rw [if_neg (by decide +kernel)]; exact ⟨rfl, rfl⟩))
    (fun os started H enc _ => lifted os started H enc)
theorem proved : Rows.SectBackSaid := over
theorem card : Rows.SectBackCardSaid :=
  Claim7.holds_tied_plain_at .later [] [.data, .pinned] true (true, "6e7d81e7345a6a4ed1b7930c1bada7874ba4f46b52a2f91137d00b89b19101a8") false
    over (fun _ h => by cases h) (by kernel_rfl) (fun _ h => by cases h) sectBack_row_tie rfl ⟨rfl, rfl⟩ (by kernel_rfl) rfl
    (fun f fn hf hfn => by
      obtain rfl : f = 3 := Option.some.inj ((show Tryd.prog.funcNamed "avocet/avocetlaw07.SectBack" = some 3 by kernel_rfl).symm.trans hf) |>.symm
      obtain rfl : fn = Tryd.f3 := (Option.some.inj (Tryd.func3.symm.trans hfn)).symm
      exact ⟨by kernel_rfl, fun j t ht => by
        rw [Tryd.params3] at ht
        match j, ht with
        | 0, ht =>
          obtain rfl : (22 : Nat) = t := by simpa using ht
          exact (show Tryd.prog.wantsStandIn 22 = false by kernel_rfl)
        | j + 1, ht => simp at ht⟩)
    (by kernel_rfl)
#print axioms card
end Go.Proofs.YtoeknjmdlmhajaaDoor.sectBack
namespace Go.Proofs.YtoeknjmdlmhajaaDoor
/-- The card, under a short name, for the claim. -/
theorem sectBack_holds : Rows.SectBackCardSaid := sectBack.card
end Go.Proofs.YtoeknjmdlmhajaaDoor
