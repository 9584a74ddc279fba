/- For every bytes: what is split is joined in no more bytes; each section is found that is the first of its ID. -/
import Derived.Test.YtoeknjmdlmhajaaDoorSectQ
import Derived.Test.YtoeknjmdlmhajaaDoorPureSectFinds
import Derived.Test.YtoeknjmdlmhajaaDoorG5
namespace Go.Proofs.YtoeknjmdlmhajaaDoor.Pure
open Go.RowKit Go.Proofs.YtoeknjmdlmhajaaDoor.G Go.Proofs.YtoeknjmdlmhajaaDoorW.PrintWords Go.Proofs.YtoeknjmdlmhajaaDoorW.PrintLast Go.Proofs.YtoeknjmdlmhajaaDoor.LebM Go.Proofs.YtoeknjmdlmhajaaDoor.LebV
set_option linter.unusedVariables false
theorem okS_above {last : Int} {l : List S38} (h0 : 0 ≤ last) (h : okS last l) : ∀ s ∈ l, s.f0 = 0 ∨ last < s.f0 := by
  induction l generalizing last with
  | nil => exact fun s hs => by cases hs
  | cons a t ih =>
    intro s hs
    rcases List.mem_cons.1 hs with rfl | hs
    · exact h.1.2.2.2
    · have := ih (mx_one h.1 h0).1 h.2 s hs
      unfold mx at this
      split at this <;> omega
theorem okS_first {last : Int} {l : List S38} (h0 : 0 ≤ last) (h : okS last l) : ∀ (i : Nat) (hi : i < l.length), 0 < l[i].f0 → ∀ x ∈ l.take i, x.f0 ≠ l[i].f0 := by
  induction l generalizing last with
  | nil => exact fun i hi => by simp at hi
  | cons a t ih =>
    intro i hi hp x hx
    cases i with
    | zero => simp at hx
    | succ i =>
      simp only [List.getElem_cons_succ] at hp ⊢
      rw [List.take_succ_cons] at hx
      have hi' : i < t.length := by simpa using hi
      rcases List.mem_cons.1 hx with rfl | hx
      · have := okS_above (mx_one h.1 h0).1 h.2 t[i] (List.getElem_mem hi')
        unfold mx at this
        split at this <;> omega
      · exact ih (mx_one h.1 h0).1 h.2 i hi' hp x hx
theorem told_l0 (b : List Int) (c : List Int) (l : List S38) (ho : okS 0 l) (hL : l.length ≤ 100000) (hc : c.length ≤ b.length) : ∀ (d k i : Nat), i + d = l.length → d < k → avocetlaw07_SectTold.l0 k b true l c 0 (i : Int) = some true
  | 0, k, i, hi, hk => by
    obtain ⟨k, rfl⟩ : ∃ m, k = m + 1 := ⟨k - 1, by omega⟩
    simp only [avocetlaw07_SectTold.l0]
    rw [if_neg (by omega)]
    unfold sect_Find.f
    rw [find_none l 12 (fun x hx => by have := (okS_one ho x hx).2; omega)]
    simp only [Option.bind_some, if_true]
    rw [if_pos (by omega)]
    rfl
  | d + 1, k, i, hi, hk => by
    obtain ⟨k, rfl⟩ : ∃ m, k = m + 1 := ⟨k - 1, by omega⟩
    have hlt : i < l.length := by omega
    simp only [avocetlaw07_SectTold.l0]
    rw [if_pos (by omega), if_pos (by omega), rd38 l i hlt]
    have ih := told_l0 b c l ho hL hc d k (i + 1) (by omega) (by omega)
    unfold sect_Find.f
    by_cases hp : l[i].f0 > 0
    · rw [find_here l l[i].f0 i hlt rfl (okS_first (by omega) ho i hlt hp)]
      simp only [Option.bind_some, if_true]
      rw [if_pos hp, w64 ((i : Int) + 1) (by omega) (by omega)]
      exact ih
    · obtain ⟨s, hs⟩ : ∃ s, l.find? (sectFind_at l[i].f0) = some s := by
        cases h : l.find? (sectFind_at l[i].f0) with
        | some s => exact ⟨s, rfl⟩
        | none =>
          have := List.find?_eq_none.1 h l[i] (List.getElem_mem hlt)
          simp [sectFind_at] at this
      rw [hs]
      simp only [Option.bind_some, if_true]
      rw [if_neg hp, w64 ((i : Int) + 1) (by omega) (by omega)]
      exact ih
theorem SectTold : avocetlaw07_SectTold.Pure := by
  intro b _ _ hw
  refine ⟨200000, ?_⟩
  have hb : allB b := fun x hx => wf_u8 (hw x hx)
  unfold avocetlaw07_SectTold.f
  rw [awake_yes 200000 (by omega), Option.bind_some]
  by_cases c1 : (b.length : Int) > 70000
  · rw [if_pos c1]
  · rw [if_neg c1]
    obtain ⟨r, h1, h2⟩ := split_tells_f b hb 200000 (by omega)
    rw [h1, Option.bind_some]
    rcases h2 with ⟨l, rfl, ho, hs, hl, hbl⟩ | ⟨h3, h4⟩
    · have hc := encL_count ho hs
      rw [List.length_append, show h8.length = 8 from rfl] at hl
      rw [if_pos rfl]
      rcases join_f l hs (by omega) 200000 (by omega) with ⟨_, hj⟩ | ⟨hn, _⟩
      · rw [hj, if_neg (by rw [List.length_append, show h8.length = 8 from rfl]; omega), Option.bind_some]
        exact told_l0 b _ l ho (by omega) (by rw [List.length_append, show h8.length = 8 from rfl]; omega) l.length 200000 0 (by omega) (by omega)
      · exact absurd ho hn
    · rw [if_neg h4, if_pos rfl, h3]
      rfl
end Go.Proofs.YtoeknjmdlmhajaaDoor.Pure
