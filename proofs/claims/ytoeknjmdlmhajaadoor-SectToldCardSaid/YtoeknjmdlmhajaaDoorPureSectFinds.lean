/- For every sections and ID: what is found is the first of the ID; where none has it there is none. -/
import Derived.Test.YtoeknjmdlmhajaaDoorSectP
import Derived.Test.YtoeknjmdlmhajaaDoorLawPSectFinds
namespace Go.Proofs.YtoeknjmdlmhajaaDoor.Pure
open Go.RowKit Go.Proofs.YtoeknjmdlmhajaaDoor.G Go.Proofs.YtoeknjmdlmhajaaDoorW.PrintWords Go.Proofs.YtoeknjmdlmhajaaDoorW.PrintLast
set_option linter.unusedVariables false
theorem find_here (l : List S38) (id : Int) (i : Nat) (hi : i < l.length) (h : l[i].f0 = id) (hn : ∀ x ∈ l.take i, x.f0 ≠ id) : l.find? (sectFind_at id) = some l[i] := by
  have h1 : (l.take i).find? (sectFind_at id) = none := List.find?_eq_none.2 (fun x hx => by simp [sectFind_at, hn x hx])
  conv => lhs; rw [← List.take_append_drop i l]
  rw [List.find?_append, h1, Option.none_or, List.drop_eq_getElem_cons hi, List.find?_cons_of_pos (by simp [sectFind_at, h])]
theorem find_none (l : List S38) (id : Int) (hn : ∀ x ∈ l, x.f0 ≠ id) : l.find? (sectFind_at id) = none := List.find?_eq_none.2 (fun x hx => by simp [sectFind_at, hn x hx])
theorem finds_l0 (l : List S36) (id : Int) (hl : l.length ≤ 1000) : ∀ (d k i : Nat), i + d = l.length → d < k → (∀ x ∈ l.take i, x.f0 ≠ id) → ∀ r, sect_Find.f (l.map to38) id = some r → avocetlaw07_SectFinds.l0 k l id true r.1 r.2 (i : Int) = some true
  | 0, k, i, hi, hk, hn, r, hr => by
    obtain ⟨k, rfl⟩ : ∃ m, k = m + 1 := ⟨k - 1, by omega⟩
    rw [List.take_of_length_le (by omega)] at hn
    have hf := find_none (l.map to38) id (fun x hx => by
      obtain ⟨y, hy, rfl⟩ := List.mem_map.1 hx
      exact hn y hy)
    unfold sect_Find.f at hr
    rw [hf] at hr
    obtain rfl := Option.some.inj hr
    simp only [avocetlaw07_SectFinds.l0]
    rw [if_neg (by omega)]
    rfl
  | d + 1, k, i, hi, hk, hn, r, hr => by
    obtain ⟨k, rfl⟩ : ∃ m, k = m + 1 := ⟨k - 1, by omega⟩
    have hlt : i < l.length := by omega
    simp only [avocetlaw07_SectFinds.l0]
    rw [if_pos (by omega), if_pos (by omega), rd36 l i hlt]
    by_cases h : l[i].f0 = id
    · rw [if_pos h]
      have hf := find_here (l.map to38) id i (by simpa using hlt) (by simpa [to38] using h) (fun x hx => by
        rw [← List.map_take] at hx
        obtain ⟨y, hy, rfl⟩ := List.mem_map.1 hx
        exact hn y hy)
      unfold sect_Find.f at hr
      rw [hf] at hr
      obtain rfl := Option.some.inj hr
      simp [to38]
    · rw [if_neg h, w64 ((i : Int) + 1) (by omega) (by omega)]
      exact finds_l0 l id hl d k (i + 1) (by omega) (by omega) (fun x hx => by
        rw [List.take_succ_eq_append_getElem hlt] at hx
        rcases List.mem_append.1 hx with hx | hx
        · exact hn x hx
        · obtain rfl : x = l[i] := by simpa using hx
          exact h) r hr
theorem SectFinds : avocetlaw07_SectFinds.Pure := by
  intro l a hl _ _
  refine ⟨1000, ?_⟩
  obtain ⟨b, h1, h2⟩ := few_f l hl 1000 (by omega)
  unfold avocetlaw07_SectFinds.f
  rw [awake_yes 1000 (by omega), Option.bind_some, h1, Option.bind_some]
  cases b with
  | false => rfl
  | true =>
    have hs := (h2 rfl).1
    rw [if_pos rfl, ours_f l (by omega) 1000 (by omega), Option.bind_some]
    obtain ⟨r, hr⟩ : ∃ r, sect_Find.f (l.map to38) a = some r := ⟨_, rfl⟩
    rw [hr, Option.bind_some]
    exact finds_l0 l a (by omega) l.length 1000 0 (by omega) (by omega) (fun x hx => by simp at hx) r hr
end Go.Proofs.YtoeknjmdlmhajaaDoor.Pure
