/- For every bytes, sections, ID, name and data: the bytes' sections, the sections' bytes, the one of the ID, and the one of the name, are what the document says. -/
import Derived.Test.YtoeknjmdlmhajaaDoorSectR
import Derived.Test.YtoeknjmdlmhajaaDoorLawPSectIs
namespace Go.Proofs.YtoeknjmdlmhajaaDoor.Pure
open Go.RowKit Go.Proofs.YtoeknjmdlmhajaaDoor.G Go.Proofs.YtoeknjmdlmhajaaDoorW.PrintWords Go.Proofs.YtoeknjmdlmhajaaDoorW.PrintLast Go.Proofs.YtoeknjmdlmhajaaDoor.LebM Go.Proofs.YtoeknjmdlmhajaaDoor.LebV
set_option linter.unusedVariables false
theorem wf_small' {l : List S36} (h : ∀ x ∈ l, Own.wf36 x) (hf : ∀ x ∈ l, x.f1.length ≤ 70000) : small (l.map to38) := by
  intro s hs
  obtain ⟨x, hx, rfl⟩ := List.mem_map.1 hs
  exact ⟨fun z hz => wf_u8 ((h x hx).2.2 z hz), hf x hx⟩
theorem SectIs : avocetlaw07_SectIs.Pure := by
  intro b l id s d _ _ hw0 hl hw1 _ _ _ _ _
  refine ⟨200001, ?_⟩
  have hb : allB b := fun x hx => wf_u8 (hw0 x hx)
  unfold avocetlaw07_SectIs.f
  rw [awake_yes 200001 (by omega), Option.bind_some]
  have ht : avocetlaw07_SectIs.j0 200001 b l id s d true true = some true := by
    show avocetlaw07_SectIs.j0 (200000 + 1) b l id s d true true = _
    simp only [avocetlaw07_SectIs.j0]
    rfl
  by_cases c1 : (b.length : Int) > 70000
  · rw [if_pos c1, ht]
  · rw [if_neg c1]
    obtain ⟨q, h1, h2⟩ := few_f l hl 200001 (by omega)
    rw [h1, Option.bind_some]
    cases q with
    | false => rw [if_neg (by decide), ht]
    | true =>
      rw [if_pos rfl]
      obtain ⟨hn, hf⟩ := h2 rfl
      have hs := wf_small' hw1 hf
      by_cases c2 : (s.size : Int) > 200
      · rw [if_pos c2, ht]
      · rw [if_neg c2]
        by_cases c3 : (d.length : Int) > 200
        · rw [decide_eq_true c3, ht]
        · rw [decide_eq_false c3]
          show avocetlaw07_SectIs.j0 (200000 + 1) b l id s d true false = _
          simp only [avocetlaw07_SectIs.j0]
          rw [if_neg (by decide)]
          obtain ⟨r, g1, g2⟩ := split_same_f b hb 200000 (by omega)
          have hr : r.1.length ≤ 100000 := by
            obtain ⟨r', g3, g4⟩ := split_tells_f b hb 200000 (by omega)
            rw [g1] at g3
            obtain rfl := Option.some.inj g3
            rcases g4 with ⟨l', rfl, ho, hs', hl', hbl⟩ | ⟨g5, _⟩
            · have := encL_count ho hs'
              rw [List.length_append] at hl'
              show l'.length ≤ 100000
              omega
            · rw [g5]
              simp
          obtain ⟨j, g5, g6⟩ := join_same_f l hs (by omega) 200000 (by omega)
          obtain ⟨c, g7, g8⟩ := custom_same_f s (by omega) d 200000 (by omega) (by omega)
          obtain ⟨f, g9⟩ : ∃ f, sect_Find.f (l.map to38) id = some f := ⟨_, rfl⟩
          rw [g1, g2, ours_f l (by omega) 200000 (by omega)]
          simp only [Option.bind_some]
          rw [g5, g6]
          simp only [Option.bind_some]
          rw [g9, find_same_f l id (by omega) 200000 (by omega), g9, g7, g8]
          simp only [Option.bind_some, if_true]
          rw [theirs_f r.1 (by omega) 200000 (by omega), Option.bind_some, same_f (r.1.map to36) (by rw [List.length_map]; omega) 200000 (by rw [List.length_map]; omega), Option.bind_some, if_pos rfl]
          simp
end Go.Proofs.YtoeknjmdlmhajaaDoor.Pure
