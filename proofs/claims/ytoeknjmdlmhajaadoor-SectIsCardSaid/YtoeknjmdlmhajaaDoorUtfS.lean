/- The document's Runes, Valid, Name and Lay (layer 3): what they tell of any bytes, and that it is what the program's tell. -/
import Derived.Test.YtoeknjmdlmhajaaDoorUtfR
namespace Go.Proofs.YtoeknjmdlmhajaaDoor.Pure
open Go.RowKit Go.Proofs.YtoeknjmdlmhajaaDoor.G Go.Proofs.YtoeknjmdlmhajaaDoorW.PrintWords Go.Proofs.YtoeknjmdlmhajaaDoorW.PrintLast Go.Proofs.YtoeknjmdlmhajaaDoorW.PrintMore Go.Proofs.YtoeknjmdlmhajaaDoor.LebM Go.Proofs.YtoeknjmdlmhajaaDoor.LebV Go.Proofs.YtoeknjmdlmhajaaDoor.LebD
set_option linter.unusedVariables false
set_option linter.unusedSimpArgs false
theorem rd0 (a : Int) (t : List Int) : rd (a :: t) 0 = a := rfl
theorem first_go (l : List Int) (n : Int) (v : Int) (i k : Nat) (b : Int) (hi : (i : Int) < n) (hl : i < l.length) (hL : l.length < 4611686018427387904) (hb : rd l (i : Int) = b) (h0 : 128 ≤ b) (h1 : b ≤ 191) (v0 : 0 ≤ v) (v1 : v < 1000000) :
    avocetref03_first.l0 (k + 1) l n v (i : Int) = avocetref03_first.l0 k l n (v * 64 + b - 128) ((i + 1 : Nat) : Int) := by
  simp only [avocetref03_first.l0]
  rw [if_pos hi, if_pos (by omega), if_pos (by omega), hb, if_neg (by omega), if_neg (by omega), w64 ((i : Int) + 1) (by omega) (by omega), w64 (v * 64) (by omega) (by omega), w64 b (by omega) (by omega), w64 (v * 64 + b) (by omega) (by omega), w64 (v * 64 + b - 128) (by omega) (by omega)]
  rfl
theorem first_fin (l : List Int) (hb : l.all u8byte = true) (n : Nat) (v : Int) (k : Nat) (hn : n ≤ l.length) (hv : okr v = true) (he : enc v = l.take n) : avocetref03_first.l0 (k + 2) l (n : Int) v (n : Int) = some (v, (n : Int)) := by
  rw [show k + 2 = (k + 1) + 1 from rfl]
  simp only [avocetref03_first.l0]
  rw [if_neg (by omega), lay_eq, Option.bind_some, if_pos hv, if_pos (by omega), if_pos (by omega), Int.toNat_natCast, if_pos ((strs_eq (enc_allB hv) (allB_of (take_byte hb n))).2 he)]
theorem first_j2_go (l : List Int) (n : Nat) (v : Int) (k : Nat) (h1 : 1 ≤ n) (h2 : n ≤ l.length) : avocetref03_first.j2 (k + 2) l (n : Int) v = avocetref03_first.l0 k l (n : Int) v ((1 : Nat) : Int) := by
  rw [show k + 2 = (k + 1) + 1 from rfl]
  simp only [avocetref03_first.j2]
  rw [if_neg (by omega), decide_eq_false (show ¬ (n : Int) > (l.length : Int) by omega)]
  simp only [avocetref03_first.j3]
  rw [if_neg (by decide)]
  rfl
theorem first_enc {r : Int} (h : okr r = true) (t : List Int) (hb : (enc r ++ t).all u8byte = true) (hL : (enc r ++ t).length < 4611686018427387904) (k : Nat) : avocetref03_first.f (k + 12) (enc r ++ t) = some (r, ((enc r).length : Int)) := by
  have hr : (0 ≤ r ∧ r < 55296) ∨ (57344 ≤ r ∧ r ≤ 1114111) := by simpa only [okr, decide_eq_true_eq] using h
  have htk : ∀ n, n = (enc r).length → enc r = (enc r ++ t).take n := fun n hn => by rw [hn, List.take_left]
  unfold avocetref03_first.f
  by_cases c1 : r < 128
  · have e : enc r = [r] := by unfold enc; rw [if_pos c1]
    have e1 := htk 1 (by rw [e]; rfl)
    rw [e] at hb hL e1 ⊢
    rw [if_pos (by simp), show rd ([r] ++ t) 0 = r from rfl, w64 r (by omega) (by omega), if_pos c1]
    exact (first_j2_go _ 1 r (k + 10) (by omega) (by simp)).trans (first_fin _ hb 1 r (k + 8) (by simp) h (e.trans e1))
  · by_cases c2 : r < 2048
    · have e : enc r = [192 + r / 64, 128 + r % 64] := by unfold enc; rw [if_neg c1, if_pos c2]
      have e1 := htk 2 (by rw [e]; rfl)
      rw [e] at hb hL e1 ⊢
      rw [if_pos (by simp; omega), show rd ([192 + r / 64, 128 + r % 64] ++ t) 0 = 192 + r / 64 from rfl, w64 (192 + r / 64) (by omega) (by omega), if_neg (by omega), if_pos (by omega), decide_eq_true (by omega), show k + 12 = (k + 11) + 1 from rfl]
      simp only [avocetref03_first.j0]
      rw [if_pos trivial, w64 _ (by omega) (by omega)]
      refine (first_j2_go _ 2 _ (k + 9) (by omega) (by simp)).trans ((first_go _ 2 _ 1 (k + 8) (128 + r % 64) (by omega) (by simp) hL rfl (by omega) (by omega) (by omega) (by omega)).trans ?_)
      rw [show (192 + r / 64 - 192) * 64 + (128 + r % 64) - 128 = r by omega]
      exact first_fin _ hb 2 r (k + 6) (by simp) h (e.trans e1)
    · by_cases c3 : r < 65536
      · have e : enc r = [224 + r / 4096, 128 + r / 64 % 64, 128 + r % 64] := by unfold enc; rw [if_neg c1, if_neg c2, if_pos c3]
        have e1 := htk 3 (by rw [e]; rfl)
        rw [e] at hb hL e1 ⊢
        rw [if_pos (by simp; omega), show rd ([224 + r / 4096, 128 + r / 64 % 64, 128 + r % 64] ++ t) 0 = 224 + r / 4096 from rfl, w64 (224 + r / 4096) (by omega) (by omega), if_neg (by omega), if_pos (by omega), decide_eq_false (by omega), show k + 12 = (k + 11) + 1 from rfl]
        simp only [avocetref03_first.j0]
        rw [if_neg (by decide), if_pos (by omega), decide_eq_true (by omega), show k + 11 = (k + 10) + 1 from rfl]
        simp only [avocetref03_first.j1]
        rw [if_pos trivial, w64 _ (by omega) (by omega)]
        refine (first_j2_go _ 3 _ (k + 8) (by omega) (by simp)).trans ((first_go _ 3 _ 1 (k + 7) (128 + r / 64 % 64) (by omega) (by simp) hL rfl (by omega) (by omega) (by omega) (by omega)).trans ((first_go _ 3 _ 2 (k + 6) (128 + r % 64) (by omega) (by simp) hL rfl (by omega) (by omega) (by omega) (by omega)).trans ?_))
        rw [show ((224 + r / 4096 - 224) * 64 + (128 + r / 64 % 64) - 128) * 64 + (128 + r % 64) - 128 = r by omega]
        exact first_fin _ hb 3 r (k + 4) (by simp) h (e.trans e1)
      · have e : enc r = [240 + r / 262144, 128 + r / 4096 % 64, 128 + r / 64 % 64, 128 + r % 64] := by unfold enc; rw [if_neg c1, if_neg c2, if_neg c3]
        have e1 := htk 4 (by rw [e]; rfl)
        rw [e] at hb hL e1 ⊢
        rw [if_pos (by simp; omega), show rd ([240 + r / 262144, 128 + r / 4096 % 64, 128 + r / 64 % 64, 128 + r % 64] ++ t) 0 = 240 + r / 262144 from rfl, w64 (240 + r / 262144) (by omega) (by omega), if_neg (by omega), if_pos (by omega), decide_eq_false (by omega), show k + 12 = (k + 11) + 1 from rfl]
        simp only [avocetref03_first.j0]
        rw [if_neg (by decide), if_pos (by omega), decide_eq_false (by omega), show k + 11 = (k + 10) + 1 from rfl]
        simp only [avocetref03_first.j1]
        rw [if_neg (by decide), if_pos (by omega), if_pos (by omega), w64 _ (by omega) (by omega)]
        refine (first_j2_go _ 4 _ (k + 8) (by omega) (by simp)).trans ((first_go _ 4 _ 1 (k + 7) (128 + r / 4096 % 64) (by omega) (by simp) hL rfl (by omega) (by omega) (by omega) (by omega)).trans ((first_go _ 4 _ 2 (k + 6) (128 + r / 64 % 64) (by omega) (by simp) hL rfl (by omega) (by omega) (by omega) (by omega)).trans ((first_go _ 4 _ 3 (k + 5) (128 + r % 64) (by omega) (by simp) hL rfl (by omega) (by omega) (by omega) (by omega)).trans ?_)))
        rw [show (((240 + r / 262144 - 240) * 64 + (128 + r / 4096 % 64) - 128) * 64 + (128 + r / 64 % 64) - 128) * 64 + (128 + r % 64) - 128 = r by omega]
        exact first_fin _ hb 4 r (k + 3) (by simp) h (e.trans e1)
/-- What the document's Runes tells from a place on. -/
theorem runes_l0 (l : List Int) (hb : l.all u8byte = true) (hL : l.length ≤ 100000) : ∀ (d k i : Nat) (out : List Int), i + d = l.length → d + 14 ≤ k → out.length + d ≤ 200000 →
    ∃ r, avocetref03_Runes.l0 k l out (i : Int) = some r ∧ ((∃ rs, okl rs ∧ l.drop i = flat rs ∧ r = (out ++ rs, true)) ∨ (valid8 (l.drop i) = false ∧ r = ([], false))) := by
  intro d
  induction d using Nat.strongRecOn with
  | ind d ih =>
    intro k i out hi hk ho
    obtain ⟨k, rfl⟩ : ∃ m, k = m + 1 := ⟨k - 1, by omega⟩
    simp only [avocetref03_Runes.l0]
    by_cases hd : d = 0
    · rw [if_neg (by omega)]
      refine ⟨_, rfl, .inl ⟨[], okl_nil, ?_, by simp⟩⟩
      rw [List.drop_of_length_le (by omega)]
      rfl
    · rw [if_pos (by omega), if_pos (by omega), if_pos (by omega), Int.toNat_natCast]
      have hbd := drop_byte hb i
      have hld : (l.drop i).length = d := by rw [List.length_drop]; omega
      have hne : l.drop i ≠ [] := fun h => by rw [h] at hld; simp at hld; omega
      obtain ⟨r, h1, h2⟩ := first_any (l.drop i) hbd (by omega) hne k (by omega)
      rw [h1, Option.bind_some]
      rcases h2 with h2 | ⟨v, hv, rfl, h3⟩
      · rw [if_pos h2]
        refine ⟨_, rfl, .inr ⟨?_, rfl⟩⟩
        cases hvd : valid8 (l.drop i) with
        | false => rfl
        | true =>
          exfalso
          obtain ⟨rs, hk1, hk2⟩ := valid_of hbd hvd
          cases rs with
          | nil => exact hne (by rw [hk2]; rfl)
          | cons q rs =>
            obtain ⟨hq, _⟩ := okl_cons.1 hk1
            rw [flat_cons] at hk2
            obtain ⟨k', rfl⟩ : ∃ m, k = m + 12 := ⟨k - 12, by omega⟩
            have h4 := first_enc hq (flat rs) (by rw [← hk2]; exact hbd) (by rw [← hk2]; omega) k'
            rw [← hk2, h1] at h4
            have h5 := congrArg Prod.snd (Option.some.inj h4)
            have := enc_len q
            rw [h2] at h5
            simp only at h5
            omega
      · have hl := enc_len v
        have hle : (enc v).length ≤ d := by
          have := congrArg List.length h3
          rw [List.length_append, hld] at this
          omega
        simp only
        rw [if_neg (by omega), if_pos (by omega), w64 ((i : Int) + ((enc v).length : Int)) (by omega) (by omega)]
        obtain ⟨r2, h4, h5⟩ := ih (d - (enc v).length) (by omega) k (i + (enc v).length) (out ++ [v]) (by omega) (by omega) (by simp; omega)
        have hcast : (i : Int) + ((enc v).length : Int) = ((i + (enc v).length : Nat) : Int) := by omega
        rw [hcast, h4]
        refine ⟨r2, rfl, ?_⟩
        rw [List.drop_drop] at h3
        rcases h5 with ⟨rs, g1, g2, rfl⟩ | ⟨g1, rfl⟩
        · refine .inl ⟨v :: rs, okl_cons.2 ⟨hv, g1⟩, ?_, by simp⟩
          rw [h3, flat_cons, g2]
        · refine .inr ⟨?_, rfl⟩
          have hdn : dN (l.drop i) = (v.toNat, (enc v).length) := by rw [h3]; exact dN_enc hv _
          rw [valid8_step _ hbd hne, hdn, if_neg (okr_1 hv), List.drop_drop]
          exact g1
theorem refRunes_f (l : List Int) (hb : l.all u8byte = true) (hL : l.length ≤ 100000) (k : Nat) (hk : l.length + 14 ≤ k) :
    (∃ rs, okl rs ∧ l = flat rs ∧ avocetref03_Runes.f k l = some (rs, true)) ∨ (valid8 l = false ∧ avocetref03_Runes.f k l = some ([], false)) := by
  obtain ⟨r, h1, h2⟩ := runes_l0 l hb hL l.length k 0 [] (by omega) hk (by simp; omega)
  unfold avocetref03_Runes.f
  rw [List.drop_zero] at h2
  rw [show (0 : Int) = ((0 : Nat) : Int) from rfl, h1]
  rcases h2 with ⟨rs, g1, g2, rfl⟩ | ⟨g1, rfl⟩
  · exact .inl ⟨rs, g1, g2, by simp⟩
  · exact .inr ⟨g1, rfl⟩
theorem refValid_f (l : List Int) (hb : l.all u8byte = true) (hL : l.length ≤ 100000) (k : Nat) (hk : l.length + 14 ≤ k) : avocetref03_Valid.f k l = some (valid8 l) := by
  unfold avocetref03_Valid.f
  rcases refRunes_f l hb hL k hk with ⟨rs, g1, g2, g3⟩ | ⟨g1, g3⟩
  · rw [g3, g2, valid8_flat g1]; rfl
  · rw [g3, g1]; rfl
/-- A name at any place in any bytes: the program's and the document's are one. -/
theorem name_eq (l : List Int) (hb : l.all u8byte = true) (hL : l.length ≤ 100000) (a : Int) (k : Nat) (hk : 200 ≤ k) :
    ∃ r, utf_Name.f l a = some r ∧ avocetref03_Name.f k l a = some r := by
  unfold utf_Name.f avocetref03_Name.f
  have hB := allB_of hb
  rw [ReadU_f l hB a 32 (by omega), refReadU_f k (by omega) l hB (by omega) a 32]
  simp only [Option.bind_some]
  rcases rU_cases l hB a 32 (by omega) (by omega) with ⟨v, n, h, h1, h2, h3, h4, h5⟩ | ⟨e, h, h1⟩
  · rw [h]
    simp only
    have h2' : v < 4294967296 := h2
    rw [if_pos trivial, if_pos trivial, w64 ((l.length : Int) - n) (by omega) (by omega), wrap_u64, Int.emod_eq_of_lt (a := (l.length : Int) - n) (by omega) (by omega), w64 v (by omega) (by omega), w64 (n + v) (by omega) (by omega)]
    by_cases c1 : v > (l.length : Int) - n
    · rw [if_pos c1, if_pos c1]
      exact ⟨_, rfl, rfl⟩
    · rw [if_neg c1, if_neg c1, if_pos (by omega), if_pos (by omega), if_pos (by omega)]
      have hc : ((l.take (n + v).toNat).drop n.toNat).all u8byte = true := drop_byte (take_byte hb _) _
      have hcl : ((l.take (n + v).toNat).drop n.toNat).length = v.toNat := by rw [List.length_drop, List.length_take]; omega
      rw [may_eq hc, hcl, Int.toNat_of_nonneg h1]
      simp only [Option.bind_some]
      by_cases c2 : v > 64
      · rw [if_pos c2, if_pos c2, if_neg (by decide)]
        exact ⟨_, rfl, rfl⟩
      · rw [if_neg c2, if_neg c2, if_pos (show (0 : Int) ≤ n by omega), if_pos (show n ≤ n + v by omega), if_pos (show n + v ≤ (l.length : Int) by omega), refValid_f _ hc (by omega) k (by omega)]
        simp only [Option.bind_some]
        cases valid8 ((l.take (n + v).toNat).drop n.toNat) with
        | true => exact ⟨_, rfl, rfl⟩
        | false => exact ⟨_, rfl, rfl⟩
  · rw [h]
    simp only
    rw [if_neg (by omega), if_neg (by omega)]
    exact ⟨_, rfl, rfl⟩
theorem refU_l0 : ∀ (j k : Nat) (v : Int) (out : List Int), 0 ≤ v → v < 18446744073709551616 → v < 128 * 128 ^ j → j < k → out.length + j + 1 < 140737488355328 → avocetref01_U.l0 k v out = some (out ++ uB j v)
  | 0, k, v, out, h0, h2, h1, hk, hl => by
    obtain ⟨k, rfl⟩ : ∃ m, k = m + 1 := ⟨k - 1, by omega⟩
    simp at h1
    simp only [avocetref01_U.l0, uB]
    rw [if_neg (by omega), if_pos (by omega)]
    congr 3; omega
  | j + 1, k, v, out, h0, h2, h1, hk, hl => by
    obtain ⟨k, rfl⟩ : ∃ m, k = m + 1 := ⟨k - 1, by omega⟩
    rw [Int.pow_succ] at h1
    simp only [avocetref01_U.l0, uB]
    by_cases hv : v ≥ 128
    · rw [if_pos hv, if_pos (by omega), if_pos hv, Int.tdiv_eq_ediv_of_nonneg h0, Int.tmod_eq_emod_of_nonneg h0, wrap_u64, wrap_u64, Int.emod_eq_of_lt (a := v / 128) (by omega) (by omega),
        refU_l0 j k (v / 128) _ (by omega) (by omega) (by omega) (by omega) (by simp; omega), List.append_assoc]
      congr 2
      simp
      omega
    · rw [if_neg hv, if_pos (by omega), if_neg hv]
      congr 3; omega
theorem refU_f (k : Nat) (l : List Int) (v : Int) (h0 : 0 ≤ v) (h1 : v < 18446744073709551616) (hk : 10 ≤ k) (hl : l.length + 10 < 140737488355328) : avocetref01_U.f k l v = some (l ++ uB 9 v) := by
  unfold avocetref01_U.f
  simp only [Option.bind_some, List.length_nil, Nat.zero_add, List.nil_append]
  rw [if_pos (by omega)]
  exact refU_l0 9 k v l h0 h1 (by omega) (by omega) (by omega)
/-- A name laid behind any bytes: the program's and the document's are one. -/
theorem lay_same (l : List Int) (hL : l.length ≤ 100000) (s : ByteArray) (hs : s.size ≤ 100000) (k : Nat) (hk : 200 ≤ k) : ∃ r, utf_Lay.f k l s = some r ∧ avocetref03_Lay.f k l s = some r := by
  have hl := bytesOf_length s
  unfold utf_Lay.f avocetref03_Lay.f
  rw [if_pos (by omega), may_eq (bytes_byte s), hl]
  simp only [Option.bind_some]
  by_cases h : (s.size : Int) > 64
  · rw [if_pos h, if_pos h, if_neg (by decide)]
    exact ⟨_, rfl, rfl⟩
  · rw [if_neg h, if_neg h, if_pos (show s.size < 140737488355328 by omega), refValid_f _ (bytes_byte s) (by omega) k (by omega), wrap_u64, Int.emod_eq_of_lt (a := (s.size : Int)) (by omega) (by omega)]
    simp only [Option.bind_some]
    cases valid8 (bytesOf s) with
    | true =>
      simp only [if_true]
      rw [U_f k l _ (by omega) (by omega) (by omega) (by omega), refU_f k l _ (by omega) (by omega) (by omega) (by omega)]
      simp only [Option.bind_some]
      have hu := uB_len 9 (s.size : Int)
      rw [if_pos (by rw [List.length_append]; omega)]
      exact ⟨_, rfl, rfl⟩
    | false => exact ⟨_, rfl, rfl⟩
end Go.Proofs.YtoeknjmdlmhajaaDoor.Pure
