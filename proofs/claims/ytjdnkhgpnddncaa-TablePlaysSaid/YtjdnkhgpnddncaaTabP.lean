/- Pure laws of what the laws call: small, Ints, Words. -/
import Derived.Test.YtjdnkhgpnddncaaG
namespace Go.Proofs.Ytjdnkhgpnddncaa.G
open Go.RowKit Go.Proofs.YtjdnkhgpnddncaaW.PrintWords
set_option linter.unusedVariables false
theorem wrap64_id {n : Int} (h0 : -9223372036854775808 ≤ n) (h1 : n < 9223372036854775808) : wrap64 n = n := by
  unfold wrap64
  omega
theorem ints_l0 (l : List Int) (hl : l.length ≤ 1000000000) : ∀ (k i : Nat), i ≤ l.length → l.length < i + k → avocetref03_Ints.l0 k l l i = some true
  | 0, i, h1, h => by omega
  | k + 1, i, h1, h => by
    unfold avocetref03_Ints.l0
    by_cases hi : (i : Int) < (l.length : Int)
    · rw [if_pos hi, if_pos (by omega), if_pos hi, if_pos rfl, wrap64_id (by omega) (by omega)]
      exact ints_l0 l hl k (i + 1) (by omega) (by omega)
    · rw [if_neg hi]
theorem ints_self (l : List Int) (hl : l.length ≤ 1000000000) : avocetref03_Ints.f (l.length + 1) l l = some true := by
  unfold avocetref03_Ints.f
  rw [if_pos rfl]
  exact ints_l0 l hl _ 0 (by omega) (by omega)
theorem words_l0 (l : List Int) (hl : l.length ≤ 1000000000) : ∀ (k i : Nat), i ≤ l.length → l.length < i + k → avocetref14_Words.l0 k l l i = some true
  | 0, i, h1, h => by omega
  | k + 1, i, h1, h => by
    unfold avocetref14_Words.l0
    by_cases hi : (i : Int) < (l.length : Int)
    · rw [if_pos hi, if_pos (by omega), if_pos hi, if_pos rfl, wrap64_id (by omega) (by omega)]
      exact words_l0 l hl k (i + 1) (by omega) (by omega)
    · rw [if_neg hi]
theorem words_self (l : List Int) (hl : l.length ≤ 1000000000) : avocetref14_Words.f (l.length + 1) l l = some true := by
  unfold avocetref14_Words.f
  rw [if_pos rfl]
  exact words_l0 l hl _ 0 (by omega) (by omega)
/-- Are acts few, and what they lay? -/
def smallB (l : List S40) : Bool := decide (l.length ≤ 200) && l.all (fun x => decide (x.f5.length ≤ 300))
theorem rd40 {l : List S40} {t : Nat} (h : t < l.length) : rd_T40 l (t : Int) = l[t] := by
  unfold rd_T40
  rw [Int.toNat_natCast, List.getD_eq_getElem?_getD, List.getElem?_eq_getElem h]
  rfl
theorem small_l0 (l : List S40) (hl : l.length ≤ 1000000000) : ∀ (k i : Nat), i ≤ l.length → l.length < i + k → avocetlaw14_small.l0 k l i = some ((l.drop i).all (fun x => decide (x.f5.length ≤ 300)))
  | 0, i, h1, h => by omega
  | k + 1, i, h1, h => by
    unfold avocetlaw14_small.l0
    by_cases hi : (i : Int) < (l.length : Int)
    · have hil : i < l.length := by omega
      rw [if_pos hi, if_pos (by omega), rd40 hil, ← List.getElem_cons_drop hil, List.all_cons]
      by_cases h3 : ((l[i].f5.length : Nat) : Int) > 300
      · rw [if_pos h3, decide_eq_false (by omega)]
        rfl
      · rw [if_neg h3, wrap64_id (by omega) (by omega), decide_eq_true (by omega), Bool.true_and]
        exact small_l0 l hl k (i + 1) (by omega) (by omega)
    · rw [if_neg hi, List.drop_of_length_le (by omega)]
      rfl
theorem small_ex (l : List S40) : ∃ k, avocetlaw14_small.f k l = some (smallB l) := by
  unfold smallB
  by_cases h : (l.length : Int) > 200
  · exact ⟨0, by unfold avocetlaw14_small.f; rw [if_pos h, decide_eq_false (by omega)]; rfl⟩
  · refine ⟨l.length + 1, ?_⟩
    unfold avocetlaw14_small.f
    rw [if_neg h, decide_eq_true (by omega), Bool.true_and]
    exact small_l0 l (by omega) _ 0 (by omega) (by omega)
theorem smallB_iff {l : List S40} (h : smallB l = true) : l.length ≤ 200 ∧ ∀ x ∈ l, x.f5.length ≤ 300 := by
  unfold smallB at h
  simp only [Bool.and_eq_true, decide_eq_true_eq, List.all_eq_true] at h
  exact h
end Go.Proofs.Ytjdnkhgpnddncaa.G
