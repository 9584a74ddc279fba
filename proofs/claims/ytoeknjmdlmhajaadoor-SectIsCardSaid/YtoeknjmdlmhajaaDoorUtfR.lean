/- What the document's answer for layer 3 comes to: a number's bytes, the number that bytes begin with, Runes, Valid, Name, Lay: as the program's. -/
import Derived.Test.YtoeknjmdlmhajaaDoorUtfT
import Derived.Test.YtoeknjmdlmhajaaDoorLebDV
import Derived.Lib.Bytes
import Derived.Test.YtoeknjmdlmhajaaDoorG1
import Derived.Test.YtoeknjmdlmhajaaDoorG4
import Derived.Test.YtoeknjmdlmhajaaDoorG5
import Derived.Test.YtoeknjmdlmhajaaDoorG6
import Derived.Test.YtoeknjmdlmhajaaDoorG7
import Derived.Test.YtoeknjmdlmhajaaDoorG8
namespace Go.Proofs.YtoeknjmdlmhajaaDoor.Pure
open Go.RowKit Go.Proofs.YtoeknjmdlmhajaaDoor.G Go.Proofs.YtoeknjmdlmhajaaDoorW.PrintWords Go.Proofs.YtoeknjmdlmhajaaDoorW.PrintLast Go.Proofs.YtoeknjmdlmhajaaDoorW.PrintMore Go.Proofs.YtoeknjmdlmhajaaDoor.LebM Go.Proofs.YtoeknjmdlmhajaaDoor.LebV Go.Proofs.YtoeknjmdlmhajaaDoor.LebD
set_option linter.unusedVariables false
set_option linter.unusedSimpArgs false
/-- A number's bytes; none, if it is no text's. -/
theorem lay_eq (k : Nat) (v : Int) : avocetref03_lay.f (k + 1) v = some (if okr v = true then enc v else []) := by
  unfold avocetref03_lay.f
  have ht : avocetref03_lay.j0 (k + 1) v true = some [] := by simp only [avocetref03_lay.j0]; rfl
  by_cases h0 : v < 0
  · rw [if_pos h0, ht, if_neg (by simp only [okr, decide_eq_true_eq]; omega)]
  · rw [if_neg h0]
    by_cases h1 : v > 1114111
    · rw [if_pos h1, ht, if_neg (by simp only [okr, decide_eq_true_eq]; omega)]
    · rw [if_neg h1]
      have hf : (v < 55296 ∨ 57343 < v) → avocetref03_lay.j0 (k + 1) v false = some (enc v) := by
        intro hv
        simp only [avocetref03_lay.j0]
        rw [if_neg (by decide), td v 64 (by omega), td v 4096 (by omega), td v 262144 (by omega), tm v 64 (by omega), w64 (v / 64) (by omega) (by omega), w64 (v / 4096) (by omega) (by omega), w64 (v / 262144) (by omega) (by omega),
          tm (v / 64) 64 (by omega), tm (v / 4096) 64 (by omega)]
        unfold enc
        by_cases c1 : v < 128
        · rw [if_pos c1, if_pos c1]
          congr 2
          omega
        · rw [if_neg c1, if_neg c1]
          by_cases c2 : v < 2048
          · rw [if_pos c2, if_pos c2, w64 (192 + v / 64) (by omega) (by omega), w64 (128 + v % 64) (by omega) (by omega)]
            rw [show (192 + v / 64) % 256 = 192 + v / 64 by omega, show (128 + v % 64) % 256 = 128 + v % 64 by omega]
          · rw [if_neg c2, if_neg c2]
            by_cases c3 : v < 65536
            · rw [if_pos c3, if_pos c3, w64 (224 + v / 4096) (by omega) (by omega), w64 (128 + v / 64 % 64) (by omega) (by omega), w64 (128 + v % 64) (by omega) (by omega)]
              rw [show (224 + v / 4096) % 256 = 224 + v / 4096 by omega, show (128 + v / 64 % 64) % 256 = 128 + v / 64 % 64 by omega, show (128 + v % 64) % 256 = 128 + v % 64 by omega]
            · rw [if_neg c3, if_neg c3, w64 (240 + v / 262144) (by omega) (by omega), w64 (128 + v / 4096 % 64) (by omega) (by omega), w64 (128 + v / 64 % 64) (by omega) (by omega), w64 (128 + v % 64) (by omega) (by omega)]
              rw [show (240 + v / 262144) % 256 = 240 + v / 262144 by omega, show (128 + v / 4096 % 64) % 256 = 128 + v / 4096 % 64 by omega, show (128 + v / 64 % 64) % 256 = 128 + v / 64 % 64 by omega, show (128 + v % 64) % 256 = 128 + v % 64 by omega]
      by_cases h2 : v ≥ 55296
      · rw [if_pos h2]
        by_cases h3 : v ≤ 57343
        · rw [decide_eq_true h3, ht, if_neg (by simp only [okr, decide_eq_true_eq]; omega)]
        · rw [decide_eq_false h3, hf (by omega), if_pos (by simp only [okr, decide_eq_true_eq]; omega)]
      · rw [if_neg h2, hf (by omega), if_pos (by simp only [okr, decide_eq_true_eq]; omega)]
theorem enc_allB {r : Int} (h : okr r = true) : allB (enc r) := allB_of (enc_byte h)
/-- The loop over the bytes behind the first: none, or the number whose bytes they are. -/
theorem first_l0 (l : List Int) (hb : l.all u8byte = true) (hL : l.length < 4611686018427387904) (n : Nat) (hn : 1 ≤ n) (hl : n ≤ l.length) : ∀ (d k i : Nat) (v : Int), i + d = n → d + 2 ≤ k →
    ∃ r, avocetref03_first.l0 k l (n : Int) v (i : Int) = some r ∧ (r = (0, 0) ∨ ∃ v', okr v' = true ∧ r = (v', (n : Int)) ∧ enc v' = l.take n)
  | 0, k, i, v, hi, hk => by
    obtain ⟨k, rfl⟩ : ∃ m, k = m + 2 := ⟨k - 2, by omega⟩
    obtain rfl : i = n := by omega
    rw [show k + 2 = (k + 1) + 1 from rfl]
    simp only [avocetref03_first.l0]
    rw [if_neg (by omega), lay_eq, Option.bind_some, if_pos (by omega), if_pos (by omega), Int.toNat_natCast]
    have hB : allB (l.take i) := allB_of (take_byte hb i)
    by_cases hv : okr v = true
    · rw [if_pos hv]
      by_cases he : enc v = l.take i
      · rw [if_pos ((strs_eq (enc_allB hv) hB).2 he)]
        exact ⟨_, rfl, .inr ⟨v, hv, rfl, he⟩⟩
      · rw [if_neg (fun h => he ((strs_eq (enc_allB hv) hB).1 h))]
        exact ⟨_, rfl, .inl rfl⟩
    · rw [if_neg hv]
      have he : ¬ ([] : List Int) = l.take i := fun h => by
        have := congrArg List.length h
        rw [List.length_take] at this
        simp at this
        omega
      rw [if_neg (fun h => he ((strs_eq (fun x hx => by cases hx) hB).1 h))]
      exact ⟨_, rfl, .inl rfl⟩
  | d + 1, k, i, v, hi, hk => by
    obtain ⟨k, rfl⟩ : ∃ m, k = m + 1 := ⟨k - 1, by omega⟩
    simp only [avocetref03_first.l0]
    rw [if_pos (by omega), if_pos (by omega), if_pos (by omega)]
    by_cases h1 : rd l (i : Int) < 128
    · rw [if_pos h1]
      exact ⟨_, rfl, .inl rfl⟩
    · rw [if_neg h1]
      by_cases h2 : rd l (i : Int) > 191
      · rw [if_pos h2]
        exact ⟨_, rfl, .inl rfl⟩
      · rw [if_neg h2, w64 ((i : Int) + 1) (by omega) (by omega)]
        exact first_l0 l hb hL n hn hl d k (i + 1) _ (by omega) (by omega)
theorem first_j2 (l : List Int) (hb : l.all u8byte = true) (hL : l.length < 4611686018427387904) (n : Nat) (hn : n ≤ 4) (k : Nat) (hk : 8 ≤ k) (v : Int) :
    ∃ r, avocetref03_first.j2 k l (n : Int) v = some r ∧ (r = (0, 0) ∨ ∃ v', okr v' = true ∧ r = (v', (n : Int)) ∧ enc v' = l.take n) := by
  obtain ⟨k, rfl⟩ : ∃ m, k = m + 8 := ⟨k - 8, by omega⟩
  rw [show k + 8 = (k + 7) + 1 from rfl]
  simp only [avocetref03_first.j2]
  have ht : avocetref03_first.j3 (k + 7) l (n : Int) v true = some (0, 0) := by rw [show k + 7 = (k + 6) + 1 from rfl]; simp only [avocetref03_first.j3]; rfl
  by_cases h0 : n = 0
  · subst h0
    rw [if_pos (by rfl), ht]
    exact ⟨_, rfl, .inl rfl⟩
  · rw [if_neg (by omega)]
    by_cases h1 : n > l.length
    · rw [decide_eq_true (show (n : Int) > (l.length : Int) by omega), ht]
      exact ⟨_, rfl, .inl rfl⟩
    · rw [decide_eq_false (show ¬ (n : Int) > (l.length : Int) by omega), show k + 7 = (k + 6) + 1 from rfl]
      simp only [avocetref03_first.j3]
      rw [if_neg (by decide)]
      exact first_l0 l hb hL n (by omega) (by omega) (n - 1) (k + 6) 1 v (by omega) (by omega)
theorem take_enc {l : List Int} {v : Int} {n : Nat} (h : enc v = l.take n) : l = enc v ++ l.drop (enc v).length := by
  have hl : (enc v).length = min n l.length := by rw [h, List.length_take]
  have h2 : l.take (enc v).length = enc v := by
    rw [hl, h]
    rcases Nat.le_total n l.length with hn | hn
    · rw [Nat.min_eq_left hn]
    · rw [Nat.min_eq_right hn, List.take_of_length_le (Nat.le_refl _), List.take_of_length_le hn]
  rw [← h2]
  rw [h2]
  conv => lhs; rw [← List.take_append_drop (enc v).length l, h2]
/-- The number that bytes begin with: none, or one whose bytes stand there. -/
theorem first_any (l : List Int) (hb : l.all u8byte = true) (hL : l.length < 4611686018427387904) (hne : l ≠ []) (k : Nat) (hk : 12 ≤ k) :
    ∃ r, avocetref03_first.f k l = some r ∧ (r.2 = 0 ∨ ∃ v, okr v = true ∧ r = (v, ((enc v).length : Int)) ∧ l = enc v ++ l.drop (enc v).length) := by
  have hpos : 0 < l.length := by cases l with | nil => exact absurd rfl hne | cons a t => simp
  have key : ∀ (n : Nat) (k : Nat) (v : Int), n ≤ 4 → 8 ≤ k → ∃ r, avocetref03_first.j2 k l (n : Int) v = some r ∧ (r.2 = 0 ∨ ∃ v, okr v = true ∧ r = (v, ((enc v).length : Int)) ∧ l = enc v ++ l.drop (enc v).length) := by
    intro n k v hn hk
    obtain ⟨r, h1, h2⟩ := first_j2 l hb hL n hn k hk v
    refine ⟨r, h1, ?_⟩
    rcases h2 with rfl | ⟨v', h3, rfl, h4⟩
    · exact .inl rfl
    · by_cases hnl : n ≤ l.length
      · refine .inr ⟨v', h3, ?_, take_enc h4⟩
        rw [h4, List.length_take, Nat.min_eq_left hnl]
      · exfalso
        have hl0 := enc_len v'
        obtain ⟨k', rfl⟩ : ∃ m, k = m + 2 := ⟨k - 2, by omega⟩
        rw [show k' + 2 = (k' + 1) + 1 from rfl] at h1
        simp only [avocetref03_first.j2] at h1
        rw [if_neg (by omega), decide_eq_true (show (n : Int) > (l.length : Int) by omega)] at h1
        simp only [avocetref03_first.j3] at h1
        have h5 := congrArg Prod.snd (Option.some.inj h1)
        simp only at h5
        omega
  obtain ⟨c0, c1⟩ := byte_at hb 0 hpos
  obtain ⟨k, rfl⟩ : ∃ m, k = m + 12 := ⟨k - 12, by omega⟩
  unfold avocetref03_first.f
  rw [if_pos (by omega), w64 (rd l 0) (by simpa using (by omega : -9223372036854775808 ≤ rd l ((0 : Nat) : Int))) (by simpa using (by omega : rd l ((0 : Nat) : Int) < 9223372036854775808))]
  by_cases g1 : rd l 0 < 128
  · rw [if_pos g1]
    exact key 1 (k + 12) _ (by omega) (by omega)
  · rw [if_neg g1]
    have j1e : ∀ b, ∃ r, avocetref03_first.j1 (k + 11) l 0 0 (rd l 0) b = some r ∧ (r.2 = 0 ∨ ∃ v, okr v = true ∧ r = (v, ((enc v).length : Int)) ∧ l = enc v ++ l.drop (enc v).length) := by
      intro b
      rw [show k + 11 = (k + 10) + 1 from rfl]
      simp only [avocetref03_first.j1]
      cases b with
      | true => rw [if_pos rfl]; exact key 3 (k + 10) _ (by omega) (by omega)
      | false =>
        rw [if_neg (by decide)]
        by_cases g : rd l 0 ≥ 240
        · rw [if_pos g]
          by_cases g' : rd l 0 < 248
          · rw [if_pos g']; exact key 4 (k + 10) _ (by omega) (by omega)
          · rw [if_neg g']; exact key 0 (k + 10) _ (by omega) (by omega)
        · rw [if_neg g]; exact key 0 (k + 10) _ (by omega) (by omega)
    have j0e : ∀ b, ∃ r, avocetref03_first.j0 (k + 12) l 0 0 (rd l 0) b = some r ∧ (r.2 = 0 ∨ ∃ v, okr v = true ∧ r = (v, ((enc v).length : Int)) ∧ l = enc v ++ l.drop (enc v).length) := by
      intro b
      rw [show k + 12 = (k + 11) + 1 from rfl]
      simp only [avocetref03_first.j0]
      cases b with
      | true => rw [if_pos rfl]; exact key 2 (k + 11) _ (by omega) (by omega)
      | false =>
        rw [if_neg (by decide)]
        by_cases g : rd l 0 ≥ 224
        · rw [if_pos g]; exact j1e _
        · rw [if_neg g]; exact j1e _
    by_cases g2 : rd l 0 ≥ 192
    · rw [if_pos g2]; exact j0e _
    · rw [if_neg g2]; exact j0e _
end Go.Proofs.YtoeknjmdlmhajaaDoor.Pure
