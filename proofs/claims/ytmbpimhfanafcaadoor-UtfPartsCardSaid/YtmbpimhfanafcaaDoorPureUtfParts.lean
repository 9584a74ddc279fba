/- For every two rows of bytes: one behind the other they are a text, if both are; its numbers are then both's. -/
import Derived.Test.YtmbpimhfanafcaaDoorUtfP
namespace Go.Proofs.YtmbpimhfanafcaaDoor.Pure
open Go.RowKit Go.Proofs.YtmbpimhfanafcaaDoor.G Go.Proofs.YtmbpimhfanafcaaDoorW.PrintWords Go.Proofs.YtmbpimhfanafcaaDoorW.PrintLast
theorem rd_nat {l : List Int} {i : Nat} (h : i < l.length) : rd l (i : Int) = l[i] := by
  unfold rd
  rw [Int.toNat_natCast, List.getD_eq_getElem?_getD, List.getElem?_eq_getElem h]
  rfl
theorem ints_same (l : List Int) (hl : l.length ≤ 1000000) : ∀ (d k : Nat) (i : Nat), i + d = l.length → d < k → avocetref03_Ints.l0 k l l (i : Int) = some true
  | 0, k, i, hd, hk => by
    obtain ⟨k, rfl⟩ : ∃ m, k = m + 1 := ⟨k - 1, by omega⟩
    simp only [avocetref03_Ints.l0]
    rw [if_neg (by omega)]
  | d + 1, k, i, hd, hk => by
    obtain ⟨k, rfl⟩ : ∃ m, k = m + 1 := ⟨k - 1, by omega⟩
    simp only [avocetref03_Ints.l0]
    rw [if_pos (by omega), if_pos (by omega), if_pos (by omega), if_pos trivial, show wrap64 ((i : Int) + 1) = ((i + 1 : Nat) : Int) by unfold wrap64; omega]
    exact ints_same l hl d k (i + 1) (by omega) (by omega)
theorem Ints_same (l : List Int) (hl : l.length ≤ 1000000) (k : Nat) (hk : l.length < k) : avocetref03_Ints.f k l l = some true := by
  unfold avocetref03_Ints.f
  rw [if_pos rfl]
  exact ints_same l hl l.length k 0 (by omega) hk
theorem flat_length (rs : List Int) : rs.length ≤ (flat rs).length := by
  induction rs with
  | nil => exact Nat.le_refl _
  | cons r rs ih =>
    have := enc_len r
    rw [flat_cons, List.length_append, List.length_cons]
    omega
theorem UtfParts : avocetlaw03_UtfParts.Pure := by
  intro a b ha1 ha2 ha3 hb1 hb2 hb3
  have wa := bytes_wf ha3
  have wb := bytes_wf hb3
  refine ⟨1002, ?_⟩
  unfold avocetlaw03_UtfParts.f
  rw [awake_yes]
  simp only [Option.bind_some]
  by_cases c1 : (a.length : Int) > 300
  · rw [if_pos c1]
    show avocetlaw03_UtfParts.j0 (1001 + 1) a b true true = _
    simp only [avocetlaw03_UtfParts.j0, if_true]
  rw [if_neg c1]
  by_cases c2 : (b.length : Int) > 300
  · rw [decide_eq_true c2]
    show avocetlaw03_UtfParts.j0 (1001 + 1) a b true true = _
    simp only [avocetlaw03_UtfParts.j0, if_true]
  rw [decide_eq_false c2]
  show avocetlaw03_UtfParts.j0 (1001 + 1) a b true false = _
  simp only [avocetlaw03_UtfParts.j0]
  rw [if_neg (by decide)]
  rcases runes_any wa (by omega) with ⟨ra, ka, rfl, ea⟩ | ⟨va, ea⟩
  · rcases runes_any wb (by omega) with ⟨rb, kb, rfl, eb⟩ | ⟨vb, eb⟩
    · have h1 := flat_length ra
      have h2 := flat_length rb
      have hall : utf_Runes.f (flat ra ++ flat rb) = some (ra ++ rb, true) := by
        rw [← flat_append]
        exact runes_yes (okl_append.2 ⟨ka, kb⟩) (by rw [flat_append, List.length_append]; omega)
      rw [ea, eb]
      simp only [Option.bind_some, List.nil_append, List.length_nil, if_true]
      rw [if_pos (by omega), if_pos (by omega), hall]
      simp only [Option.bind_some, if_true]
      rw [if_pos (by omega), if_pos (by omega), Ints_same _ (by rw [List.length_append]; omega) _ (by rw [List.length_append]; omega)]
      rfl
    · have hv : valid8 (flat ra ++ b) = false := by
        cases hv : valid8 (flat ra ++ b) with
        | false => rfl
        | true =>
          obtain ⟨rs, h1, h2⟩ := valid_of (by rw [List.all_append, flat_byte ka, wb]; rfl) hv
          obtain ⟨c, hc, hb⟩ := flat_cancel ka h1 h2
          subst hc
          rw [hb, valid8_flat (okl_append.1 h1).2] at vb
          cases vb
      rw [ea, eb]
      simp only [Option.bind_some, List.nil_append, List.length_nil, if_true]
      rw [if_pos (by omega), if_pos (by omega), runes_no (by rw [List.all_append, flat_byte ka, wb]; rfl) hv]
      simp
  · rw [ea]
    rcases runes_any wb (by omega) with ⟨rb, kb, rfl, eb⟩ | ⟨vb, eb⟩
    all_goals
      rw [eb]
      simp only [Option.bind_some, List.nil_append, List.length_nil]
      rw [if_pos (by omega), if_pos (by omega)]
    · rcases runes_any (l := a ++ flat rb) (by rw [List.all_append, wa, wb]; rfl) (by rw [List.length_append]; omega) with ⟨_, _, _, e⟩ | ⟨_, e⟩ <;> rw [e] <;> simp
    · rcases runes_any (l := a ++ b) (by rw [List.all_append, wa, wb]; rfl) (by rw [List.length_append]; omega) with ⟨_, _, _, e⟩ | ⟨_, e⟩ <;> rw [e] <;> simp
end Go.Proofs.YtmbpimhfanafcaaDoor.Pure
