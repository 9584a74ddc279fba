/- LebLens: a number's length in bytes is one to ten, grows with the number, and a signed one's is at most one more. -/
import Derived.Test.YtiohdianmddfkaaG2
import Derived.Test.YtiohdianmddfkaaLebU
set_option linter.unusedVariables false
namespace Go.Proofs.Ytiohdianmddfkaa.Pure
open Go.RowKit Go.Proofs.Ytiohdianmddfkaa.G Go.Proofs.YtiohdianmddfkaaW.PrintWords Go.Proofs.YtiohdianmddfkaaW.PrintLast Go.Proofs.YtiohdianmddfkaaW.PrintMore Go.Proofs.Ytiohdianmddfkaa.LebM Go.Proofs.Ytiohdianmddfkaa.LebU

theorem w_small (n : Nat) (h : n ≤ 10) : wrap64 ((n : Int) + 1) = (n : Int) + 1 := by unfold wrap64; omega
theorem fin1 (B s n : Nat) (hs : s = B / 7 + 1) (hn : n = max 1 ((B + 6) / 7)) : (s : Int) ≥ (n : Int) ∧ (s : Int) ≤ (n : Int) + 1 := by omega
theorem LebLens : avocetlaw01_LebLens.Pure := by
  intro a0 a1 a2 h0 h1 h2
  have h0 := wf_u64 h0
  have h1 := wf_u64 h1
  have h2 := wf_i64 h2
  refine ⟨10, ?_⟩
  have hm0 : 0 ≤ mn a0 a1 ∧ mn a0 a1 < 18446744073709551616 := by unfold mn; split <;> omega
  have hm1 : 0 ≤ mx a0 a1 ∧ mx a0 a1 < 18446744073709551616 ∧ mn a0 a1 ≤ mx a0 a1 := by unfold mx mn; split <;> split <;> omega
  have e2 : wrap64 (-1 - a2) = -1 - a2 := wrap64_id _ (by omega) (by omega)
  unfold avocetlaw01_LebLens.f
  rw [awake_f 10 (by omega), LenS_f a2 h2.1 h2.2, LenU_f _ hm0.1 hm0.2, LenU_f _ hm1.1 hm1.2.1, e2, LenS_f (-1 - a2) (by omega) (by omega)]
  have l0 := uB_length 9 (mn a0 a1) hm0.1 (by omega) hm0.2
  have l1 := uB_length 9 (mx a0 a1) hm1.1 (by omega) hm1.2.1
  have l2 := sB_length 9 a2 (by omega) (by omega) (by omega) (by omega)
  have l3 := sB_length 9 (-1 - a2) (by omega) (by omega) (by omega) (by omega)
  have b1 : Lib.bitLen (mx a0 a1).toNat ≤ 64 := bitLen_le _ 64 (by omega)
  have b2 : Lib.bitLen (mn a0 a1).toNat ≤ Lib.bitLen (mx a0 a1).toNat := bitLen_mono (by omega)
  have b3 : Lib.bitLen (mag a2) ≤ 63 := bitLen_le _ 63 (by unfold mag; split <;> omega)
  have b4 : mag (-1 - a2) = mag a2 := by unfold mag; split <;> split <;> omega
  rw [b4] at l3
  simp only [Option.bind_some, if_true]
  rw [if_pos (by omega), if_pos (by omega), if_pos (by omega), if_pos (by omega), if_pos (by omega)]
  by_cases hn : a2 < 0
  · rw [if_pos hn]
    simp only [Option.some.injEq, beq_iff_eq]
    omega
  · rw [if_neg hn, wrap_u64, Int.emod_eq_of_lt (by omega) (by omega), LenU_f a2 (by omega) (by omega)]
    have l4 := uB_length 9 a2 (by omega) (by omega) (by omega)
    have e : a2.toNat = mag a2 := by unfold mag; rw [if_neg hn]
    rw [e] at l4
    generalize (uB 9 a2).length = n at l4 ⊢
    have hn10 : n ≤ 10 := by omega
    have e5 : wrap64 ((n : Int) + 1) = (n : Int) + 1 := w_small n hn10
    simp only [Option.bind_some]
    have hf := fin1 _ _ _ l2 l4
    rw [e5, if_pos hf.1, if_pos hf.2]
    simp only [Option.some.injEq, beq_iff_eq]
    omega

end Go.Proofs.Ytiohdianmddfkaa.Pure
