/- A number of 32 digits, extended and wrapped again. -/
import Derived.Test.YtjonlcnmpejamaaDoorG10
import Derived.Test.YtjonlcnmpejamaaDoorIntsP
namespace Go.Proofs.YtjonlcnmpejamaaDoor.Pure
open Go.RowKit Go.Proofs.YtjonlcnmpejamaaDoor.G Go.Proofs.YtjonlcnmpejamaaDoorW.PrintWords Go.Proofs.YtjonlcnmpejamaaDoorW.PrintLast
theorem IntsWrap : avocetlaw02_IntsWrap.Pure := by
  intro a ha
  have ⟨a0, a1⟩ := LebM.wf_u64 ha
  refine ⟨1, ?_⟩
  unfold avocetlaw02_IntsWrap.f
  rw [Int.tmod_eq_emod_of_nonneg a0]
  obtain ⟨x, hx⟩ : ∃ x, a % 4294967296 = x := ⟨_, rfl⟩
  rw [hx]
  have x0 : 0 ≤ x := by omega
  have x1 : x < 4294967296 := by omega
  have s : oneV 172 x = (IntKind.u64.wrap (wrap64 (wrap32 (x % 4294967296))), true) := rfl
  have u : oneV 173 x = (x % 4294967296, true) := rfl
  have v : ∀ y, oneV 167 y = (y % 4294967296, true) := fun _ => rfl
  have ex : x % 4294967296 = x := by omega
  rw [awake_yes 0, Option.bind_some, one_f 0 172 x x0 (by omega), Option.bind_some, one_f 0 173 x x0 (by omega), Option.bind_some, s, u, ex]
  obtain ⟨z, hz⟩ : ∃ z, IntKind.u64.wrap (wrap64 (wrap32 x)) = z := ⟨_, rfl⟩
  rw [hz]
  rw [wrap_u64_] at hz
  unfold wrap64 wrap32 at hz
  show (ints_One.f (0 + 1) 167 z).bind _ = _
  rw [one_f 0 167 z (by omega) (by omega), Option.bind_some]
  show (ints_One.f (0 + 1) 167 x).bind _ = _
  rw [one_f 0 167 x x0 (by omega), Option.bind_some, v, v, ex]
  have e1 : z % 4294967296 = x := by omega
  rw [if_pos rfl]
  show (if z % 4294967296 = x then _ else _) = _
  rw [if_pos e1]
  show (if x = x then _ else _) = _
  rw [if_pos rfl]
  show (if x = x then _ else _) = _
  rw [if_pos rfl]
  unfold ints_Signed.f ints_Value.f ints_Fits.f
  rw [if_pos rfl, Option.bind_some]
  show (if wrap64 z = wrap64 (wrap32 x) then _ else _) = _
  rw [if_pos (by unfold wrap64 wrap32; omega), if_pos rfl, Option.bind_some]
  show (if wrap64 z % 4294967296 = x then _ else _) = _
  rw [if_pos (by unfold wrap64; omega), if_neg (by decide), if_pos rfl, Option.bind_some]
  congr 1
  rw [beq_iff_eq]
  omega
end Go.Proofs.YtjonlcnmpejamaaDoor.Pure
