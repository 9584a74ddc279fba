/- layer 04: the example holds; more rounds tell the same. -/
import Derived.Test.YthddcbfgdpfcjaaG
set_option linter.unusedVariables false
namespace Go.Proofs.Ythddcbfgdpfcjaa.TyA
open Go.RowKit Go.Proofs.Ythddcbfgdpfcjaa.G Go.Proofs.YthddcbfgdpfcjaaW.PrintWords Go.Proofs.YthddcbfgdpfcjaaW.PrintLast Go.Proofs.YthddcbfgdpfcjaaW.PrintMore
theorem mono_le {α : Type} (f : Nat → Option α) (hm : ∀ k, LeO (f k) (f (k + 1))) {r : α} {a : Nat} (h : f a = some r) : ∀ b, a ≤ b → f b = some r := by
  intro b hb
  induction hb with
  | refl => exact h
  | step _ ih => exact hm _ _ ih
theorem awake_20 : avocetlaw04_awake.f 20 = some true := by decide +kernel
theorem awake_f (k : Nat) (hk : 20 ≤ k) : avocetlaw04_awake.f k = some true := mono_le avocetlaw04_awake.f avocetlaw04_awake.mono awake_20 k hk
end Go.Proofs.Ythddcbfgdpfcjaa.TyA
