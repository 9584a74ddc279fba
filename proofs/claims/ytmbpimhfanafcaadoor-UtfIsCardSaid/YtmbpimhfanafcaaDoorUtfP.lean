/- What utf.Runes tells of any bytes; a text's numbers are told in one way. -/
import Derived.Test.YtmbpimhfanafcaaDoorUtfA
import Derived.Test.YtmbpimhfanafcaaDoorG1
namespace Go.Proofs.YtmbpimhfanafcaaDoor.Pure
open Go.RowKit Go.Proofs.YtmbpimhfanafcaaDoor.G Go.Proofs.YtmbpimhfanafcaaDoorW.PrintWords Go.Proofs.YtmbpimhfanafcaaDoorW.PrintLast
set_option linter.unusedVariables false
set_option linter.unusedSimpArgs false
theorem runesZ_flat : ∀ {rs : List Int} (pre : List Int) (f : Nat), okl rs → pre.all u8byte = true → (flat rs).length ≤ f → runesZ (strOfNums (pre ++ flat rs)) f pre.length = rs
  | [], pre, f, _, _, _ => runesZ_end _ _ _ (by rw [strOfNums_size, flat_nil]; simp)
  | r :: rs, pre, f, h, hp, hf => by
    obtain ⟨h1, h2⟩ := okl_cons.1 h
    have hl := enc_len r
    rw [flat_cons] at hf ⊢
    rw [List.length_append] at hf
    obtain ⟨f', rfl⟩ : ∃ f', f = f' + 1 := ⟨f - 1, by omega⟩
    have hb : (pre ++ (enc r ++ flat rs)).all u8byte = true := by rw [List.all_append, List.all_append, hp, enc_byte h1, flat_byte h2]; rfl
    have hd := dec_str _ hb pre.length
    rw [List.drop_left, dN_enc h1] at hd
    unfold runesZ
    rw [if_pos (by rw [strOfNums_size, List.length_append, List.length_append]; omega), hd]
    have ih := runesZ_flat (rs := rs) (pre ++ enc r) f' h2 (by rw [List.all_append, hp, enc_byte h1]; rfl) (by omega)
    rw [List.append_assoc, List.length_append] at ih
    rw [ih]
    have : 0 ≤ r := by simp only [okr, decide_eq_true_eq] at h1; omega
    rw [Int.toNat_of_nonneg this]
theorem runesZ_all {rs : List Int} (h : okl rs) : runesZ (strOfNums (flat rs)) (flat rs).length 0 = rs := by
  have := runesZ_flat (rs := rs) [] (flat rs).length h rfl (Nat.le_refl _)
  simpa using this
theorem flat_inj {a b : List Int} (ha : okl a) (hb : okl b) (h : flat a = flat b) : a = b := by
  have h1 := runesZ_all ha
  rw [h, runesZ_all hb] at h1
  exact h1.symm
/-- A text that begins with a text: the numbers begin so. -/
theorem flat_cancel : ∀ {a b : List Int} {t : List Int}, okl a → okl b → flat a ++ t = flat b → ∃ c, b = a ++ c ∧ t = flat c
  | [], b, t, _, _, h => ⟨b, rfl, by simpa [flat_nil] using h⟩
  | r :: a, [], t, ha, _, h => by
    rw [flat_cons, flat_nil, List.append_assoc] at h
    exact absurd h enc_ne
  | r :: a, q :: b, t, ha, hb, h => by
    obtain ⟨h1, h2⟩ := okl_cons.1 ha
    obtain ⟨h3, h4⟩ := okl_cons.1 hb
    rw [flat_cons, flat_cons, List.append_assoc] at h
    have e1 := dN_enc h1 (flat a ++ t)
    rw [h, dN_enc h3] at e1
    have h0 : 0 ≤ r ∧ 0 ≤ q := by simp only [okr, decide_eq_true_eq] at h1 h3; omega
    have e2 : r = q := by
      have := congrArg Prod.fst e1
      simp only at this
      omega
    subst e2
    have h' := List.append_cancel_left h
    obtain ⟨c, hc, ht⟩ := flat_cancel h2 h4 h'
    exact ⟨c, by rw [hc]; rfl, ht⟩
theorem runes_yes {rs : List Int} (h : okl rs) (hl : (flat rs).length < 17592186044416) : utf_Runes.f (flat rs) = some (rs, true) := by
  unfold utf_Runes.f utf_Valid.f utf8_Valid.f
  rw [if_pos (flat_byte h)]
  have := valid8_flat h
  unfold valid8 at this
  rw [this]
  simp only [Option.bind_some, if_true]
  rw [if_pos hl, runesZ_all h]
theorem runes_no {l : List Int} (hb : l.all u8byte = true) (h : valid8 l = false) : utf_Runes.f l = some ([], false) := by
  unfold utf_Runes.f utf_Valid.f utf8_Valid.f
  rw [if_pos hb]
  unfold valid8 at h
  rw [h]
  rfl
/-- What Runes tells of any bytes. -/
theorem runes_any {l : List Int} (hb : l.all u8byte = true) (hl : l.length < 17592186044416) : (∃ rs, okl rs ∧ l = flat rs ∧ utf_Runes.f l = some (rs, true)) ∨ (valid8 l = false ∧ utf_Runes.f l = some ([], false)) := by
  cases hv : valid8 l with
  | true =>
    obtain ⟨rs, h1, rfl⟩ := valid_of hb hv
    exact .inl ⟨rs, h1, rfl, runes_yes h1 hl⟩
  | false => exact .inr ⟨rfl, runes_no hb hv⟩
theorem awake_yes : avocetlaw03_awake.f = some true := by
  decide +kernel
end Go.Proofs.YtmbpimhfanafcaaDoor.Pure
