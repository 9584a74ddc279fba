/- Whether any number is a value, its signed number, any number's value. -/
import Derived.Test.YtjonlcnmpejamaaDoorG10
import Derived.Test.YtjonlcnmpejamaaDoorIntsP
namespace Go.Proofs.YtjonlcnmpejamaaDoor.Pure
open Go.RowKit Go.Proofs.YtjonlcnmpejamaaDoor.G Go.Proofs.YtjonlcnmpejamaaDoorW.PrintWords Go.Proofs.YtjonlcnmpejamaaDoorW.PrintLast
theorem IntsValues : avocetlaw02_IntsValues.Pure := by
  intro t v n ht hv hn
  have ⟨t0, t1⟩ := LebM.wf_u8 ht
  have ⟨v0, v1⟩ := LebM.wf_u64 hv
  have ⟨n0, n1⟩ := LebM.wf_i64 hn
  refine ⟨1, ?_⟩
  unfold avocetlaw02_IntsValues.f
  rw [awake_yes 0, Option.bind_some, if_pos rfl]
  have f1 : ints_Fits.f t v = avocetref02_Fits.f t v := by
    unfold ints_Fits.f avocetref02_Fits.f
    split
    · rfl
    · split
      · congr 1
        rw [Bool.eq_iff_iff]
        simp only [beq_iff_eq, decide_eq_true_eq]
        omega
      · rfl
  have f2 : ∃ b, avocetref02_Fits.f t v = some b := by
    unfold avocetref02_Fits.f
    split
    · exact ⟨_, rfl⟩
    · split <;> exact ⟨_, rfl⟩
  obtain ⟨b, f2⟩ := f2
  rw [f1, f2, Option.bind_some, Option.bind_some, if_pos (by simp)]
  have g : ints_Signed.f t v = avocetref02_Signed.f t v := by
    unfold ints_Signed.f avocetref02_Signed.f avocetref02_low.f avocetref02_signed.f
    split
    · rw [if_pos rfl, Option.bind_some, if_pos rfl]
      have e : Int.tmod v 4294967296 = v % 4294967296 := Int.tmod_eq_emod_of_nonneg v0
      rw [e]
      split
      · rw [Option.bind_some]
        unfold wrap64 wrap32
        congr 1
        omega
      · rw [Option.bind_some]
        unfold wrap64 wrap32
        congr 1
        omega
    · rfl
  have g2 : ∃ b, avocetref02_Signed.f t v = some b := by
    rw [← g]
    unfold ints_Signed.f
    split <;> exact ⟨_, rfl⟩
  obtain ⟨c, g2⟩ := g2
  rw [g, g2, Option.bind_some, Option.bind_some, if_pos rfl]
  have h : ints_Value.f t n = avocetref02_Value.f t n := by
    unfold ints_Value.f avocetref02_Value.f avocetref02_low.f
    split
    · rw [if_pos rfl, Option.bind_some, wrap_u64_]
      rw [Int.tmod_eq_emod_of_nonneg (by omega)]
      congr 1
      omega
    · rfl
  have h2 : ∃ b, avocetref02_Value.f t n = some b := by
    rw [← h]
    unfold ints_Value.f
    split <;> exact ⟨_, rfl⟩
  obtain ⟨d, h2⟩ := h2
  rw [h, h2, Option.bind_some, Option.bind_some]
  simp
end Go.Proofs.YtjonlcnmpejamaaDoor.Pure
