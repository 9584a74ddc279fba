/- Package frames' laws: frames as the document's, held beside what else there is. -/
import Derived.Deep.DeepMust
import Derived.Test.YtbbgkelcdooabaaFraN
import Derived.Test.YtbbgkelcdooabaaFraQ
namespace Go.Proofs.Ytbbgkelcdooabaa.G
open Go.RowKit Go.Proofs.YtbbgkelcdooabaaW.PrintWords Go.Proofs.YtbbgkelcdooabaaW.PrintLast Go.Proofs.YtbbgkelcdooabaaW.PrintMore
set_option linter.unusedVariables false
set_option linter.unusedSimpArgs false
theorem frTheirsR {w0 w : World} {L : List As} {v : Value} {xs : List S58} {n : Nat} (HS : SB w0 w (Row k58 58 v xs :: L)) (hn : xs.length = n) (hl : n ≤ 1000000) :
    Calls Try.prog 24 #[v] w fun e w' => ∃ A c, e = .returned (.slice A n c) ∧ n ≤ c ∧ SB w0 w' (RdA w0 k61 A n (xs.map th) :: L) := by
  subst hn
  obtain ⟨A, c, rfl, hc, hC⟩ := HS.reads
  obtain ⟨F, hF, hge, K⟩ := HS.frame
  have hV := Kd.V_mk (e := 58) (base := w.heap.size) hc (Kd.N_F (Kd.R_N hF.1))
  refine (avocetlaw17_theirs.calls _ F A c xs _ w hV (theirs_f xs (by omega))).mono ?_
  rintro e w' ⟨v0, rfl, hN, hb⟩
  obtain ⟨A1, c1, rfl, hc1, hC1⟩ := Kd.N_reads hN
  have hf := Kd.F_bound (Kd.N_F hN)
  rw [List.length_map] at hc1 hf ⊢
  refine ⟨A1, c1, rfl, hc1, K w' (RdA w0 k61 A1 xs.length (xs.map th)) _ ⟨fun W h1 _ => hf W (fun k hk _ => h1 k hk), fun k hk => hk.2⟩ (Fr.of_below hb) (fun k hk => hk.1)⟩
end Go.Proofs.Ytbbgkelcdooabaa.G
