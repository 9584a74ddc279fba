/- For every bytes, numbers, place and string: whether they are a text, its numbers, the numbers' bytes, the name at the place, and the string laid as a name, are what the document says. -/
import Derived.Test.YtmbpimhfanafcaaDoorUtfS
import Derived.Test.YtmbpimhfanafcaaDoorUtfF
import Derived.Test.YtmbpimhfanafcaaDoorG7
import Derived.Test.YtmbpimhfanafcaaDoorG8
namespace Go.Proofs.YtmbpimhfanafcaaDoor.Pure
open Go.RowKit Go.Proofs.YtmbpimhfanafcaaDoor.G Go.Proofs.YtmbpimhfanafcaaDoorW.PrintWords Go.Proofs.YtmbpimhfanafcaaDoorW.PrintLast Go.Proofs.YtmbpimhfanafcaaDoorW.PrintMore Go.Proofs.YtmbpimhfanafcaaDoor.LebM Go.Proofs.YtmbpimhfanafcaaDoor.LebV
set_option linter.unusedVariables false
theorem rd_nat_ (l : List Int) (i : Nat) (h : i < l.length) : rd l (i : Int) = l[i] := by
  unfold rd
  rw [Int.toNat_natCast, List.getD_eq_getElem?_getD, List.getElem?_eq_getElem h]
  rfl
theorem refFrom_l0 (l : List Int) (hl : l.length ≤ 1000) : ∀ (d k i : Nat) (out : List Int), i + d = l.length → d + 2 ≤ k → out.length + 4 * d ≤ 100000 →
    avocetref03_FromRunes.l0 k l out (i : Int) = some (if (l.drop i).all okr = true then (out ++ flat (l.drop i), true) else ([], false))
  | 0, k, i, out, hi, hk, ho => by
    obtain ⟨k, rfl⟩ : ∃ m, k = m + 1 := ⟨k - 1, by omega⟩
    simp only [avocetref03_FromRunes.l0]
    rw [if_neg (by omega), List.drop_of_length_le (by omega)]
    simp [flat]
  | d + 1, k, i, out, hi, hk, ho => by
    obtain ⟨k, rfl⟩ : ∃ m, k = m + 1 := ⟨k - 1, by omega⟩
    have hlay : ∀ v, avocetref03_lay.f k v = some (if okr v = true then enc v else []) := by
      obtain ⟨p, rfl⟩ : ∃ p, k = p + 1 := ⟨k - 1, by omega⟩
      exact lay_eq p
    simp only [avocetref03_FromRunes.l0]
    have hlt : i < l.length := by omega
    rw [if_pos (by omega), if_pos (by omega), rd_nat_ l i hlt, hlay, Option.bind_some, List.drop_eq_getElem_cons hlt, List.all_cons]
    by_cases hv : okr l[i] = true
    · have he := enc_len l[i]
      rw [if_pos hv, if_neg (by omega), if_pos (by omega), w64 ((i : Int) + 1) (by omega) (by omega), show (i : Int) + 1 = ((i + 1 : Nat) : Int) by omega,
        refFrom_l0 l hl d k (i + 1) _ (by omega) (by omega) (by rw [List.length_append]; omega), hv, Bool.true_and, flat_cons, List.append_assoc]
    · rw [if_neg hv, if_pos (by rfl)]
      have : okr l[i] = false := by simpa using hv
      rw [this, Bool.false_and]
      rfl
theorem refFrom_f (l : List Int) (hl : l.length ≤ 1000) (k : Nat) (hk : l.length + 2 ≤ k) : avocetref03_FromRunes.f k l = some (if l.all okr = true then (flat l, true) else ([], false)) := by
  unfold avocetref03_FromRunes.f
  have := refFrom_l0 l hl l.length k 0 [] (by omega) hk (by simp; omega)
  simpa using this
theorem runes_same (l : List Int) (hb : l.all u8byte = true) (hL : l.length ≤ 1000) (k : Nat) (hk : 2000 ≤ k) : ∃ r b, utf_Runes.f l = some (r, b) ∧ avocetref03_Runes.f k l = some (r, b) ∧ r.length ≤ l.length := by
  rcases runes_any hb (by omega) with ⟨rs, h1, h2, h3⟩ | ⟨h1, h3⟩
  · rcases refRunes_f l hb (by omega) k (by omega) with ⟨qs, g1, g2, g3⟩ | ⟨g1, g3⟩
    · have : rs = qs := flat_inj h1 g1 (by rw [← h2, ← g2])
      subst this
      refine ⟨_, _, h3, g3, ?_⟩
      have := le_flat rs
      rw [← h2] at this
      exact this
    · rw [h2, valid8_flat h1] at g1
      cases g1
  · rcases refRunes_f l hb (by omega) k (by omega) with ⟨qs, g1, g2, g3⟩ | ⟨g1, g3⟩
    · rw [g2, valid8_flat g1] at h1
      cases h1
    · exact ⟨_, _, h3, g3, Nat.zero_le _⟩
theorem UtfIs : avocetlaw03_UtfIs.Pure := by
  intro l0 l1 a2 a3 _ _ hw0 _ _ hw1 _ _
  refine ⟨3000, ?_⟩
  have hb := bytes_wf hw0
  unfold avocetlaw03_UtfIs.f
  rw [awake_yes, Option.bind_some]
  have ht : avocetlaw03_UtfIs.j0 3000 l0 l1 a2 a3 true true = some true := by
    show avocetlaw03_UtfIs.j0 (2999 + 1) l0 l1 a2 a3 true true = _
    simp only [avocetlaw03_UtfIs.j0]
    rfl
  by_cases c1 : (l0.length : Int) > 500
  · rw [if_pos c1, ht]
  · rw [if_neg c1]
    by_cases c2 : (l1.length : Int) > 200
    · rw [if_pos c2, ht]
    · rw [if_neg c2]
      by_cases c3 : (a3.size : Int) > 200
      · rw [decide_eq_true c3, ht]
      · rw [decide_eq_false c3]
        show avocetlaw03_UtfIs.j0 (2999 + 1) l0 l1 a2 a3 true false = _
        simp only [avocetlaw03_UtfIs.j0]
        obtain ⟨r, b, h1, h2, h3⟩ := runes_same l0 hb (by omega) 2999 (by omega)
        obtain ⟨n, h4, h5⟩ := name_eq l0 hb (by omega) a2 2999 (by omega)
        obtain ⟨m, h6, h7⟩ := lay_same l0 (by omega) a3 (by omega) 2999 (by omega)
        rw [if_neg (by decide), h1, h2, from_eq l1 (by omega) 2999 (by omega), refFrom_f l1 (by omega) 2999 (by omega), h4, h5, h6, h7, Valid_eq hb, refValid_f l0 hb (by omega) 2999 (by omega)]
        simp only [Option.bind_some, if_true, beq_self_eq_true]
        rw [Ints_eq r (by omega) 2999 (by omega)]
        simp
end Go.Proofs.YtmbpimhfanafcaaDoor.Pure
