/- LebLays: any number's bytes, behind any others, and how many they are, are what the document says. -/
import Derived.Test.YtiohdianmddfkaaG2
import Derived.Test.YtiohdianmddfkaaLebU
set_option linter.unusedVariables false
set_option linter.unusedSimpArgs false
namespace Go.Proofs.Ytiohdianmddfkaa.Pure
open Go.RowKit Go.Proofs.Ytiohdianmddfkaa.G Go.Proofs.YtiohdianmddfkaaW.PrintWords Go.Proofs.YtiohdianmddfkaaW.PrintLast Go.Proofs.YtiohdianmddfkaaW.PrintMore Go.Proofs.Ytiohdianmddfkaa.LebM Go.Proofs.Ytiohdianmddfkaa.LebU

theorem refU_l0 : ∀ (j k : Nat) (v : Int) (out : List Int), 0 ≤ v → v < 18446744073709551616 → v < 128 * 128 ^ j → j < k → out.length + j + 1 < 140737488355328 → avocetref01_U.l0 k v out = some (out ++ uB j v)
  | 0, k, v, out, h0, h2, h1, hk, hl => by
    obtain ⟨k, rfl⟩ : ∃ m, k = m + 1 := ⟨k - 1, by omega⟩
    simp at h1
    simp only [avocetref01_U.l0, uB]
    rw [if_neg (by omega), if_pos (by omega)]
    congr 3; omega
  | j + 1, k, v, out, h0, h2, h1, hk, hl => by
    obtain ⟨k, rfl⟩ : ∃ m, k = m + 1 := ⟨k - 1, by omega⟩
    rw [Int.pow_succ] at h1
    simp only [avocetref01_U.l0, uB]
    by_cases hv : v ≥ 128
    · rw [if_pos hv, if_pos (by omega), if_pos hv, Int.tdiv_eq_ediv_of_nonneg h0, Int.tmod_eq_emod_of_nonneg h0, wrap_u64, wrap_u64, Int.emod_eq_of_lt (a := v / 128) (by omega) (by omega),
        refU_l0 j k (v / 128) _ (by omega) (by omega) (by omega) (by omega) (by simp; omega), List.append_assoc]
      congr 2
      simp
      omega
    · rw [if_neg hv, if_pos (by omega), if_neg hv]
      congr 3; omega
theorem refU_f (k : Nat) (l : List Int) (v : Int) (h0 : 0 ≤ v) (h1 : v < 18446744073709551616) (hk : 10 ≤ k) (hl : l.length + 10 < 140737488355328) : avocetref01_U.f k l v = some (l ++ uB 9 v) := by
  unfold avocetref01_U.f
  simp only [Option.bind_some, List.length_nil, Nat.zero_add, List.nil_append]
  rw [if_pos (by omega)]
  exact refU_l0 9 k v l h0 h1 (by omega) (by omega) (by omega)
theorem refS_l0 : ∀ (j k : Nat) (v : Int) (out : List Int), -64 * 128 ^ j ≤ v → v < 64 * 128 ^ j → j < k → out.length + j + 1 < 140737488355328 → avocetref01_S.l0 k v out = some (out ++ sB j v)
  | 0, k, v, out, h0, h1, hk, hl => by
    obtain ⟨k, rfl⟩ : ∃ m, k = m + 1 := ⟨k - 1, by omega⟩
    simp at h0 h1
    simp only [avocetref01_S.l0, sB]
    rw [if_neg (by omega), if_neg (by omega), if_pos (by omega), and_127]
    congr 3; omega
  | j + 1, k, v, out, h0, h1, hk, hl => by
    obtain ⟨k, rfl⟩ : ∃ m, k = m + 1 := ⟨k - 1, by omega⟩
    rw [Int.pow_succ] at h0 h1
    simp only [avocetref01_S.l0, sB]
    have R : v < -64 ∨ v ≥ 64 → avocetref01_S.l0 k (v / 128) (out ++ [wrap64 (128 + Go.bits .and .i64 v 127) % 256]) = some (out ++ ((v % 128 + 128) :: sB j (v / 128))) := fun hv => by
      rw [refS_l0 j k (v / 128) _ (by omega) (by omega) (by omega) (by simp; omega), and_127, wrap64_id _ (by omega) (by omega), List.append_assoc]
      congr 2
      simp
      omega
    by_cases hv : v < -64
    · rw [if_pos hv, if_pos (by omega), if_pos (.inl hv), R (.inl hv)]
    · rw [if_neg hv]
      by_cases hw : v > 63
      · rw [if_pos hw, if_pos (by omega), if_pos (.inr (by omega)), R (.inr (by omega))]
      · rw [if_neg hw, if_pos (by omega), if_neg (by omega), and_127]
        congr 3; omega
theorem refS_f (k : Nat) (l : List Int) (v : Int) (h0 : -9223372036854775808 ≤ v) (h1 : v < 9223372036854775808) (hk : 10 ≤ k) (hl : l.length + 10 < 140737488355328) : avocetref01_S.f k l v = some (l ++ sB 9 v) := by
  unfold avocetref01_S.f
  simp only [Option.bind_some, List.length_nil, Nat.zero_add, List.nil_append]
  rw [if_pos (by omega)]
  exact refS_l0 9 k v l (by omega) (by omega) (by omega) (by omega)
theorem LebLays : avocetlaw01_LebLays.Pure := by
  intro l a1 a2 _ hlen _ h1 h2
  have h1 := wf_u64 h1
  have h2 := wf_i64 h2
  refine ⟨20, ?_⟩
  unfold avocetlaw01_LebLays.f
  rw [awake_f 20 (by omega), Option.bind_some]
  by_cases hc : (l.length : Int) > 1000
  · rw [if_pos hc]
  · rw [if_neg hc, U_f 20 l a1 h1.1 h1.2 (by omega) (by omega), refU_f 20 l a1 h1.1 h1.2 (by omega) (by omega), S_f 20 l a2 h2.1 h2.2 (by omega) (by omega), refS_f 20 l a2 h2.1 h2.2 (by omega) (by omega),
      LenU_f a1 h1.1 h1.2, LenS_f a2 h2.1 h2.2]
    have e1 : avocetref01_LenU.f 20 a1 = some ((uB 9 a1).length : Int) := by
      unfold avocetref01_LenU.f; rw [refU_f 20 [] a1 h1.1 h1.2 (by omega) (by simp)]; rfl
    have e2 : avocetref01_LenS.f 20 a2 = some ((sB 9 a2).length : Int) := by
      unfold avocetref01_LenS.f; rw [refS_f 20 [] a2 h2.1 h2.2 (by omega) (by simp)]; rfl
    rw [e1, e2]
    simp

end Go.Proofs.Ytiohdianmddfkaa.Pure
