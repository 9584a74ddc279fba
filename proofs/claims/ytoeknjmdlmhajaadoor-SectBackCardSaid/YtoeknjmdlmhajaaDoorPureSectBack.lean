/- For every sections: what is joined is split as it was; a byte less, of the last one, is too short. -/
import Derived.Test.YtoeknjmdlmhajaaDoorSectP
import Derived.Test.YtoeknjmdlmhajaaDoorLawPSectBack
namespace Go.Proofs.YtoeknjmdlmhajaaDoor.Pure
open Go.RowKit Go.Proofs.YtoeknjmdlmhajaaDoor.G Go.Proofs.YtoeknjmdlmhajaaDoorW.PrintWords Go.Proofs.YtoeknjmdlmhajaaDoorW.PrintLast Go.Proofs.YtoeknjmdlmhajaaDoor.LebM Go.Proofs.YtoeknjmdlmhajaaDoor.LebV
set_option linter.unusedVariables false
theorem wf_small {l : List S36} (h : ∀ x ∈ l, Own.wf36 x) (hf : ∀ x ∈ l, x.f1.length ≤ 70000) : small (l.map to38) := by
  intro s hs
  obtain ⟨x, hx, rfl⟩ := List.mem_map.1 hs
  exact ⟨fun z hz => wf_u8 ((h x hx).2.2 z hz), hf x hx⟩
theorem SectBack : avocetlaw07_SectBack.Pure := by
  intro l hl hw
  refine ⟨1000, ?_⟩
  obtain ⟨b, h1, h2⟩ := few_f l hl 1000 (by omega)
  unfold avocetlaw07_SectBack.f
  rw [awake_yes 1000 (by omega), Option.bind_some, h1, Option.bind_some]
  cases b with
  | false => rfl
  | true =>
    obtain ⟨hn, hf⟩ := h2 rfl
    have hs := wf_small hw hf
    have hlen : (l.map to38).length = l.length := List.length_map _
    rw [if_pos rfl, ours_f l (by omega) 1000 (by omega), Option.bind_some]
    rcases join_f (l.map to38) hs (by omega) 1000 (by omega) with ⟨ho, hj⟩ | ⟨_, hj⟩
    · rw [hj]
      by_cases hc : ((h8 ++ encL (l.map to38)).length : Int) > 65536
      · rw [if_pos hc]
        rfl
      · rw [if_neg hc]
        simp only [Option.bind_some]
        rw [if_pos trivial, split_back_f _ 1000 ho hs (by omega) (by omega) (by omega)]
        simp only [Option.bind_some]
        rw [if_pos trivial, theirs_f _ (by omega) 1000 (by omega), to_to, Option.bind_some, same_f l (by omega) 1000 (by omega), Option.bind_some, if_pos rfl]
        have h8l : 8 ≤ (h8 ++ encL (l.map to38)).length := by simp [h8]
        have hm : mx 0 (wrap64 (((h8 ++ encL (l.map to38)).length : Int) - 1)) = (((h8 ++ encL (l.map to38)).length - 1 : Nat) : Int) := by
          rw [w64 _ (by omega) (by omega)]
          unfold mx
          split <;> omega
        obtain ⟨r, hr⟩ := split_less_f (l.map to38) 1000 ho hs (by omega) (by omega) (by omega)
        rw [hm, if_pos (by omega), if_pos (by omega), Int.toNat_natCast, hr]
        rfl
    · rw [hj]
      rfl
end Go.Proofs.YtoeknjmdlmhajaaDoor.Pure
