/- For every row of numbers and every place: their bytes, cut there, are two texts just where a number ends. -/
import Derived.Test.YtmbpimhfanafcaaDoorUtfN
import Derived.Test.YtmbpimhfanafcaaDoorG4
namespace Go.Proofs.YtmbpimhfanafcaaDoor.Pure
open Go.RowKit Go.Proofs.YtmbpimhfanafcaaDoor.G Go.Proofs.YtmbpimhfanafcaaDoorW.PrintWords Go.Proofs.YtmbpimhfanafcaaDoorW.PrintLast
set_option linter.unusedVariables false
def pre (l : List Int) (i : Nat) : Nat := (flat (l.take i)).length
theorem pre_zero (l : List Int) : pre l 0 = 0 := by simp [pre, flat]
theorem pre_all (l : List Int) : pre l l.length = (flat l).length := by simp [pre]
theorem pre_le (l : List Int) (i : Nat) : pre l i ≤ (flat l).length := by
  unfold pre
  have := congrArg List.length (flat_append (l.take i) (l.drop i))
  rw [List.take_append_drop, List.length_append] at this
  omega
theorem pre_cons (r : Int) (l : List Int) (i : Nat) : pre (r :: l) (i + 1) = (enc r).length + pre l i := by
  simp [pre, List.take_succ_cons, flat_cons]
theorem pre_succ (l : List Int) (i : Nat) (h : i < l.length) : pre l (i + 1) = pre l i + (enc l[i]).length := by
  unfold pre
  rw [List.take_succ_eq_append_getElem h, flat_append, List.length_append]
  simp [flat]
def edgeB (l : List Int) (c : Nat) (i : Nat) : Bool := (List.range i).any fun j => pre l j == c
theorem edgeB_succ (l : List Int) (c i : Nat) : edgeB l c (i + 1) = (edgeB l c i || pre l i == c) := by
  simp [edgeB, List.range_succ]
theorem edgeB_iff {l : List Int} {c i : Nat} : edgeB l c i = true ↔ ∃ j, j < i ∧ pre l j = c := by
  simp [edgeB]
theorem enc_head {r : Int} (h : okr r = true) : ∃ x t, enc r = x :: t ∧ (x < 128 ∨ 191 < x) := by
  simp only [okr, decide_eq_true_eq] at h
  unfold enc
  by_cases h1 : r < 128
  · rw [if_pos h1]; exact ⟨_, _, rfl, by omega⟩
  · by_cases h2 : r < 2048
    · rw [if_neg h1, if_pos h2]; exact ⟨_, _, rfl, by omega⟩
    · by_cases h3 : r < 65536
      · rw [if_neg h1, if_neg h2, if_pos h3]; exact ⟨_, _, rfl, by omega⟩
      · rw [if_neg h1, if_neg h2, if_neg h3]; exact ⟨_, _, rfl, by omega⟩
theorem enc_tail {r : Int} (c : Nat) (h0 : 0 < c) (hc : c < (enc r).length) : 128 ≤ (enc r).getD c 0 ∧ (enc r).getD c 0 ≤ 191 := by
  unfold enc at hc ⊢
  obtain ⟨c, rfl⟩ : ∃ m, c = m + 1 := ⟨c - 1, by omega⟩
  by_cases h1 : r < 128
  · rw [if_pos h1] at hc; simp at hc
  · by_cases h2 : r < 2048
    · rw [if_neg h1, if_pos h2] at hc ⊢
      simp only [List.length_cons, List.length_nil] at hc
      obtain rfl : c = 0 := by omega
      simp only [List.getD_cons_succ, List.getD_cons_zero]
      omega
    · by_cases h3 : r < 65536
      · rw [if_neg h1, if_neg h2, if_pos h3] at hc ⊢
        simp only [List.length_cons, List.length_nil] at hc
        rcases c with _ | _ | c
        · simp only [List.getD_cons_succ, List.getD_cons_zero]; omega
        · simp only [List.getD_cons_succ, List.getD_cons_zero]; omega
        · omega
      · rw [if_neg h1, if_neg h2, if_neg h3] at hc ⊢
        simp only [List.length_cons, List.length_nil] at hc
        rcases c with _ | _ | _ | c
        · simp only [List.getD_cons_succ, List.getD_cons_zero]; omega
        · simp only [List.getD_cons_succ, List.getD_cons_zero]; omega
        · simp only [List.getD_cons_succ, List.getD_cons_zero]; omega
        · omega
theorem inner : ∀ (l : List Int) (c : Nat), c < (flat l).length → (∀ j, j ≤ l.length → pre l j ≠ c) → 128 ≤ (flat l).getD c 0 ∧ (flat l).getD c 0 ≤ 191
  | [], c, hc, _ => by simp [flat_nil] at hc
  | r :: l, c, hc, hj => by
    rw [flat_cons] at hc ⊢
    rw [List.length_append] at hc
    by_cases h : c < (enc r).length
    · have h0 : 0 < c := by
        have := hj 0 (Nat.zero_le _)
        rw [pre_zero] at this
        omega
      have := enc_tail c h0 h
      rw [List.getD_eq_getElem?_getD, List.getElem?_append_left h, ← List.getD_eq_getElem?_getD]
      exact this
    · have ih := inner l (c - (enc r).length) (by omega) (fun j hl he => hj (j + 1) (by simpa using hl) (by rw [pre_cons, he]; omega))
      rw [List.getD_eq_getElem?_getD, List.getElem?_append_right (by omega), ← List.getD_eq_getElem?_getD]
      exact ih
theorem cut_valid {l : List Int} (hk : okl l) {c : Nat} (hc : c ≤ (flat l).length) : valid8 ((flat l).take c) = edgeB l c (l.length + 1) ∧ valid8 ((flat l).drop c) = edgeB l c (l.length + 1) := by
  have hb := flat_byte hk
  cases he : edgeB l c (l.length + 1) with
  | true =>
    obtain ⟨j, hj, hp⟩ := edgeB_iff.1 he
    have h : flat l = flat (l.take j) ++ flat (l.drop j) := by rw [← flat_append, List.take_append_drop]
    have hk2 := hk
    rw [← List.take_append_drop j l] at hk2
    obtain ⟨k1, k2⟩ := okl_append.1 hk2
    unfold pre at hp
    rw [h, ← hp, List.take_left, List.drop_left]
    exact ⟨valid8_flat k1, valid8_flat k2⟩
  | false =>
    have hn : ∀ j, j ≤ l.length → pre l j ≠ c := fun j hj hp => by
      rw [edgeB_iff.2 ⟨j, by omega, hp⟩] at he
      cases he
    constructor
    · cases hv : valid8 ((flat l).take c) with
      | false => rfl
      | true =>
        obtain ⟨rs, k1, h1⟩ := valid_of (take_byte hb c) hv
        have h2 : flat rs ++ (flat l).drop c = flat l := by rw [← h1, List.take_append_drop]
        obtain ⟨cs, h3, _⟩ := flat_cancel k1 hk h2
        have h4 : pre l rs.length = c := by
          unfold pre
          rw [h3, List.take_left, ← h1, List.length_take]
          omega
        exact absurd h4 (hn rs.length (by rw [h3, List.length_append]; omega))
    · cases hv : valid8 ((flat l).drop c) with
      | false => rfl
      | true =>
        obtain ⟨cs, k1, h1⟩ := valid_of (drop_byte hb c) hv
        by_cases hlt : c < (flat l).length
        · have hi := inner l c hlt hn
          cases cs with
          | nil =>
            have := congrArg List.length h1
            rw [List.length_drop, flat_nil] at this
            simp at this
            omega
          | cons q cs =>
            obtain ⟨x, t, hx, hx2⟩ := enc_head (okl_cons.1 k1).1
            rw [flat_cons, hx] at h1
            have h5 := congrArg (·[0]?) h1
            simp only [List.getElem?_drop, Nat.add_zero, List.cons_append, List.getElem?_cons_zero] at h5
            rw [List.getD_eq_getElem?_getD, h5] at hi
            simp only [Option.getD_some] at hi
            omega
        · exact absurd (by rw [pre_all]; omega) (hn l.length (Nat.le_refl _))
theorem cut_one (l : List Int) (i : Nat) (h : i < l.length) : (l.take (i + 1)).drop i = [l[i]] := by
  rw [List.take_succ_eq_append_getElem h]
  have : (l.take i).length = i := by rw [List.length_take]; omega
  exact List.drop_left' this
theorem cut_l0 (l : List Int) (hk : okl l) (hl : l.length ≤ 100) (c : Nat) (hc : c ≤ (flat l).length) : ∀ (d k i : Nat), i + d = l.length + 1 → d + 5 ≤ k →
    avocetlaw03_UtfCut.l0 k l true (flat l) (c : Int) ((if i ≤ l.length then pre l i else pre l l.length : Nat) : Int) (edgeB l c i) (i : Int) = some true
  | 0, k, i, hd, hkk => by
    obtain ⟨k, rfl⟩ : ∃ m, k = m + 1 := ⟨k - 1, by omega⟩
    obtain rfl : i = l.length + 1 := by omega
    have hv := cut_valid hk hc
    have hb := flat_byte hk
    simp only [avocetlaw03_UtfCut.l0]
    rw [if_neg (by omega), if_pos trivial, if_pos (by omega), if_pos (by omega), Int.toNat_natCast, Valid_eq (take_byte hb c), hv.1]
    simp only [Option.bind_some]
    rw [if_pos (by simp), Valid_eq (drop_byte hb c), hv.2]
    simp only [Option.bind_some]
    rw [if_pos (by simp), if_neg (by omega), pre_all]
    simp
  | d + 1, k, i, hd, hkk => by
    obtain ⟨k, rfl⟩ : ∃ m, k = m + 1 := ⟨k - 1, by omega⟩
    have hi : i ≤ l.length := by omega
    have hw : wrap64 ((i : Int) + 1) = ((i + 1 : Nat) : Int) := by unfold wrap64; omega
    have ih := cut_l0 l hk hl c hc d k (i + 1) (by omega) (by omega)
    rw [edgeB_succ] at ih
    have h4 := flat_le l
    have hp := pre_le l i
    simp only [avocetlaw03_UtfCut.l0]
    rw [if_pos hi]
    rw [if_pos (show (i : Int) ≤ (l.length : Int) by omega), hw]
    have hcast : ∀ n : Nat, (((n : Nat) : Int) == (c : Int)) = (n == c) := fun n => by rw [Bool.eq_iff_iff]; simp; omega
    by_cases hlt : i < l.length
    · have hone : okl [l[i]] := okl_cons.2 ⟨hk _ (List.getElem_mem hlt), okl_nil⟩
      have hf : utf_FromRunes.f k [l[i]] = some (enc l[i], true) := by
        have := from_yes hone (by simp) k (by simp; omega)
        simpa [flat] using this
      have hen := enc_len l[i]
      rw [if_pos (show i + 1 ≤ l.length by omega), pre_succ l i hlt] at ih
      have hw2 : wrap64 ((pre l i : Int) + ((enc l[i]).length : Int)) = ((pre l i + (enc l[i]).length : Nat) : Int) := by unfold wrap64; omega
      have i1 : (i : Int) < (l.length : Int) := by omega
      have i2 : (0 : Int) ≤ (i : Int) := by omega
      have i3 : (i : Int) ≤ ((i + 1 : Nat) : Int) := by omega
      have i4 : ((i + 1 : Nat) : Int) ≤ (l.length : Int) := by omega
      cases he : edgeB l c i
      all_goals
        rw [he] at ih
        simp only [Bool.false_or, Bool.true_or] at ih
      · rw [if_neg (by decide), if_pos i1, if_pos i2, if_pos i3, if_pos i4, Int.toNat_natCast, Int.toNat_natCast, cut_one l i hlt, hf, Option.bind_some, hw2, hcast]
        exact ih
      · rw [if_pos (show (true : Bool) = true from rfl), if_pos i1, if_pos i2, if_pos i3, if_pos i4, Int.toNat_natCast, Int.toNat_natCast, cut_one l i hlt, hf, Option.bind_some, hw2]
        exact ih
    · obtain rfl : i = l.length := by omega
      rw [if_neg (show ¬ l.length + 1 ≤ l.length by omega)] at ih
      have i1 : ¬ (l.length : Int) < (l.length : Int) := by omega
      cases he : edgeB l c l.length
      all_goals
        rw [he] at ih
        simp only [Bool.false_or, Bool.true_or] at ih
      · rw [if_neg (by decide), if_neg i1, hcast]
        exact ih
      · rw [if_pos (show (true : Bool) = true from rfl), if_neg i1]
        exact ih
theorem UtfCut : avocetlaw03_UtfCut.Pure := by
  intro l a hl1 hl2 hl3 ha
  refine ⟨200, ?_⟩
  unfold avocetlaw03_UtfCut.f
  rw [awake_yes]
  simp only [Option.bind_some]
  by_cases c1 : (l.length : Int) > 100
  · rw [if_pos c1]
  rw [if_neg c1, from_eq l (by omega) 200 (by omega)]
  simp only [Option.bind_some]
  by_cases h : l.all okr = true
  · have hk := okl_all.2 h
    have h4 := flat_le l
    rw [if_pos h]
    simp only [if_true]
    rw [mask16, show wrap64 (((flat l).length : Int) + 1) = ((flat l).length : Int) + 1 by unfold wrap64; omega, if_neg (by omega)]
    obtain ⟨c, hc⟩ : ∃ c : Nat, Int.tmod (a % 65536) (((flat l).length : Int) + 1) = (c : Int) := ⟨(Int.tmod (a % 65536) (((flat l).length : Int) + 1)).toNat, by
      have : 0 ≤ Int.tmod (a % 65536) (((flat l).length : Int) + 1) := by rw [Int.tmod_eq_emod_of_nonneg (by omega)]; exact Int.emod_nonneg _ (by omega)
      omega⟩
    have hc2 : c ≤ (flat l).length := by
      have : Int.tmod (a % 65536) (((flat l).length : Int) + 1) < ((flat l).length : Int) + 1 := by rw [Int.tmod_eq_emod_of_nonneg (by omega)]; exact Int.emod_lt_of_pos _ (by omega)
      omega
    rw [hc]
    have := cut_l0 l hk (by omega) c hc2 (l.length + 1) 200 0 (by omega) (by omega)
    simpa [pre_zero, edgeB] using this
  · rw [if_neg h]
    simp
end Go.Proofs.YtmbpimhfanafcaaDoor.Pure
