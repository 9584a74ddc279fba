/- Plain facts on avocet/utf.FromRunes: it lays each number's bytes, or tells that a number has none. -/
import Derived.Test.YtmbpimhfanafcaaDoorUtfP
import Derived.Test.YtmbpimhfanafcaaDoorG1
import Derived.Test.YtmbpimhfanafcaaDoorG2
namespace Go.Proofs.YtmbpimhfanafcaaDoor.Pure
open Go.RowKit Go.Proofs.YtmbpimhfanafcaaDoor.G Go.Proofs.YtmbpimhfanafcaaDoorW.PrintWords Go.Proofs.YtmbpimhfanafcaaDoorW.PrintLast
set_option linter.unusedVariables false
set_option linter.unusedSimpArgs false
theorem validRune_eq (r : Int) (k : Nat) : utf8_ValidRune.f (k + 1) r = some (okr r) := by
  unfold utf8_ValidRune.f okr
  by_cases h0 : 0 ≤ r
  · rw [if_pos h0]
    simp only [utf8_ValidRune.j0]
    by_cases h1 : r < 55296
    · rw [decide_eq_true h1, if_pos rfl, decide_eq_true (by omega)]
    · rw [decide_eq_false h1, if_neg (by decide)]
      by_cases h2 : 57343 < r
      · rw [if_pos h2]
        by_cases h3 : r ≤ 1114111
        · rw [if_pos h3, decide_eq_true (by omega)]
        · rw [if_neg h3, decide_eq_false (by omega)]
      · rw [if_neg h2, decide_eq_false (by omega)]
  · rw [if_neg h0]
    simp only [utf8_ValidRune.j0]
    rw [if_neg (by decide), if_neg (by omega), decide_eq_false (by omega)]
theorem appendRune_eq {r : Int} (h : okr r = true) (l : List Int) (hl : l.length + 4 < 140737488355328) (k : Nat) : utf8_AppendRune.f (k + 1) l r = some (l ++ enc r) := by
  simp only [okr, decide_eq_true_eq] at h
  have e : r % 4294967296 = r := by omega
  unfold utf8_AppendRune.f enc
  rw [e]
  by_cases h1 : r < 128
  · rw [if_pos (by omega), if_pos (by omega), if_pos h1, show r % 256 = r by omega]
  · rw [if_neg (by omega), if_neg h1]
    unfold utf8_appendRuneNonASCII.f
    rw [e]
    by_cases h2 : r < 2048
    · have e1 : Go.bits .or .u8 192 (r / 64 % 256) = 192 + r / 64 % 256 := u8_or192 _ (by omega) (by omega)
      rw [if_pos (by omega), if_pos h2, u8tail, e1]
      simp only [Option.bind_some, List.length_cons, List.length_nil]
      rw [if_pos (by omega), show r / 64 % 256 = r / 64 by omega]
      rfl
    · rw [if_neg (by omega), if_neg h2]
      by_cases h3 : r < 65536
      · have hj : utf8_appendRuneNonASCII.j0 (k + 1) l r r true = some (l ++ [224 + r / 4096, 128 + r / 64 % 64, 128 + r % 64]) := by
          simp only [utf8_appendRuneNonASCII.j0, if_true]
          have e1 : Go.bits .or .u8 224 (r / 4096 % 256) = 224 + r / 4096 % 256 := u8_or224 _ (by omega) (by omega)
          rw [u8tail, u8tail, e1]
          simp only [Option.bind_some, List.length_cons, List.length_nil]
          rw [if_pos (by omega), show r / 4096 % 256 = r / 4096 by omega]
        rw [if_pos h3]
        by_cases h4 : r < 55296
        · rw [if_pos h4, decide_eq_true h4, hj]
          rfl
        · rw [if_neg h4, if_pos (by omega), decide_eq_true (by omega), hj]
          rfl
      · rw [if_neg (by omega), if_pos (by omega), if_neg h3, decide_eq_false (by omega)]
        simp only [utf8_appendRuneNonASCII.j0, Bool.false_eq_true, if_false]
        have e1 : Go.bits .or .u8 240 (r / 262144 % 256) = 240 + r / 262144 % 256 := u8_or240 _ (by omega) (by omega)
        rw [if_pos (by omega), if_pos (by omega), u8tail, u8tail, u8tail, e1]
        simp only [Option.bind_some, List.length_cons, List.length_nil]
        rw [if_pos (by omega), show r / 262144 % 256 = r / 262144 by omega]
        rfl
theorem rd_drop {l : List Int} {i : Nat} (h : i < l.length) : l.drop i = rd l (i : Int) :: l.drop (i + 1) := by
  rw [List.drop_eq_getElem_cons h]
  congr 1
  unfold rd
  rw [Int.toNat_natCast, List.getD_eq_getElem?_getD, List.getElem?_eq_getElem h]
  rfl
theorem from_l0 (l : List Int) (hl : l.length ≤ 1000000) : ∀ (d k i : Nat) (out : List Int), i + d = l.length → d + 1 ≤ k → out.length + 4 * d < 100000000 →
    utf_FromRunes.l0 k out l (l.length : Int) (i : Int) = some (if (l.drop i).all okr = true then (out ++ flat (l.drop i), true) else ([], false))
  | 0, k, i, out, hd, hk, ho => by
    obtain ⟨k, rfl⟩ : ∃ m, k = m + 1 := ⟨k - 1, by omega⟩
    simp only [utf_FromRunes.l0]
    rw [if_neg (by omega), List.drop_of_length_le (by omega)]
    simp [flat_nil]
  | d + 1, k, i, out, hd, hk, ho => by
    obtain ⟨k, rfl⟩ : ∃ m, k = m + 1 := ⟨k - 1, by omega⟩
    have hi : i < l.length := by omega
    rw [rd_drop hi, List.all_cons, flat_cons]
    simp only [utf_FromRunes.l0]
    rw [if_pos (by omega), if_pos (by omega), if_pos (by omega)]
    obtain ⟨k, rfl⟩ : ∃ m, k = m + 1 := ⟨k - 1, by omega⟩
    generalize rd l (i : Int) = r
    by_cases h1 : r < 0
    · rw [if_pos h1]
      have : okr r = false := by simp only [okr, decide_eq_false_iff_not]; omega
      simp [this]
    rw [if_neg h1]
    by_cases h2 : r > 1114111
    · rw [if_pos h2]
      have : okr r = false := by simp only [okr, decide_eq_false_iff_not]; omega
      simp [this]
    rw [if_neg h2, show wrap32 r = r by unfold wrap32; omega, validRune_eq]
    simp only [Option.bind_some]
    cases hv : okr r with
    | false => simp
    | true =>
      have hlen := enc_len r
      rw [if_pos (show (true : Bool) = true from rfl), appendRune_eq hv out (by omega), Option.bind_some, Bool.true_and, show wrap64 ((i : Int) + 1) = ((i + 1 : Nat) : Int) by unfold wrap64; omega, from_l0 l hl d (k + 1) (i + 1) (out ++ enc r) (by omega) (by omega) (by rw [List.length_append]; omega), List.append_assoc]
theorem from_eq (l : List Int) (hl : l.length ≤ 1000000) (k : Nat) (hk : l.length + 1 ≤ k) : utf_FromRunes.f k l = some (if l.all okr = true then (flat l, true) else ([], false)) := by
  unfold utf_FromRunes.f
  have := from_l0 l hl l.length k 0 [] (by omega) hk (by simp; omega)
  simpa using this
theorem okl_all {l : List Int} : okl l ↔ l.all okr = true := by
  simp [okl, List.all_eq_true]
theorem from_yes {l : List Int} (h : okl l) (hl : l.length ≤ 1000000) (k : Nat) (hk : l.length + 1 ≤ k) : utf_FromRunes.f k l = some (flat l, true) := by
  rw [from_eq l hl k hk, if_pos (okl_all.1 h)]
theorem flat_le (rs : List Int) : (flat rs).length ≤ 4 * rs.length := by
  induction rs with
  | nil => exact Nat.le_refl _
  | cons r rs ih =>
    have := enc_len r
    rw [flat_cons, List.length_append, List.length_cons]
    omega
theorem le_flat (rs : List Int) : rs.length ≤ (flat rs).length := by
  induction rs with
  | nil => exact Nat.le_refl _
  | cons r rs ih =>
    have := enc_len r
    rw [flat_cons, List.length_append, List.length_cons]
    omega
theorem ints_same' (l : List Int) (hl : l.length ≤ 1000000) : ∀ (d k : Nat) (i : Nat), i + d = l.length → d < k → avocetref03_Ints.l0 k l l (i : Int) = some true
  | 0, k, i, hd, hk => by
    obtain ⟨k, rfl⟩ : ∃ m, k = m + 1 := ⟨k - 1, by omega⟩
    simp only [avocetref03_Ints.l0]
    rw [if_neg (by omega)]
  | d + 1, k, i, hd, hk => by
    obtain ⟨k, rfl⟩ : ∃ m, k = m + 1 := ⟨k - 1, by omega⟩
    simp only [avocetref03_Ints.l0]
    rw [if_pos (by omega), if_pos (by omega), if_pos (by omega), if_pos trivial, show wrap64 ((i : Int) + 1) = ((i + 1 : Nat) : Int) by unfold wrap64; omega]
    exact ints_same' l hl d k (i + 1) (by omega) (by omega)
theorem Ints_eq (l : List Int) (hl : l.length ≤ 1000000) (k : Nat) (hk : l.length < k) : avocetref03_Ints.f k l l = some true := by
  unfold avocetref03_Ints.f
  rw [if_pos rfl]
  exact ints_same' l hl l.length k 0 (by omega) hk
end Go.Proofs.YtmbpimhfanafcaaDoor.Pure
