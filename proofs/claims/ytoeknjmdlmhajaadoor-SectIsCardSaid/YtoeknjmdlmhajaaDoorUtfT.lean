/- The program's reading of a name, in plain words: it always tells something. -/
import Derived.Test.YtoeknjmdlmhajaaDoorUtfA
import Derived.Test.YtoeknjmdlmhajaaDoorLebV
import Derived.Lib.Bytes
import Derived.Test.YtoeknjmdlmhajaaDoorG1
namespace Go.Proofs.YtoeknjmdlmhajaaDoor.Pure
open Go.RowKit Go.Proofs.YtoeknjmdlmhajaaDoor.G Go.Proofs.YtoeknjmdlmhajaaDoorW.PrintWords Go.Proofs.YtoeknjmdlmhajaaDoorW.PrintLast Go.Proofs.YtoeknjmdlmhajaaDoorW.PrintMore Go.Proofs.YtoeknjmdlmhajaaDoor.LebM Go.Proofs.YtoeknjmdlmhajaaDoor.LebV
set_option linter.unusedVariables false
set_option linter.unusedSimpArgs false
theorem bytes_byte (s : ByteArray) : (bytesOf s).all u8byte = true := by
  rw [List.all_eq_true]
  intro x hx
  unfold bytesOf at hx
  obtain ⟨b, _, rfl⟩ := List.mem_map.1 hx
  have := b.toNat_lt
  simp only [u8byte, decide_eq_true_eq]
  omega
theorem str_bytes (s : ByteArray) : strOfNums (bytesOf s) = s := by
  unfold strOfNums bytesOf
  rw [List.map_map, List.map_congr_left (g := id) (fun b _ => by simp), List.map_id]
theorem allB_of {l : List Int} (h : l.all u8byte = true) : allB l := fun x hx => by
  have := List.all_eq_true.1 h x hx
  simpa only [u8byte, decide_eq_true_eq] using this
theorem byte_at {l : List Int} (h : l.all u8byte = true) (i : Nat) (hi : i < l.length) : 0 ≤ rd l (i : Int) ∧ rd l (i : Int) < 256 := by
  have := allB_of h l[i] (List.getElem_mem hi)
  unfold rd
  rw [Int.toNat_natCast, List.getD_eq_getElem?_getD, List.getElem?_eq_getElem hi]
  exact this
theorem byte_inj_ {a b : Int} (h0 : 0 ≤ a) (h1 : a < 256) (h2 : 0 ≤ b) (h3 : b < 256) (h : UInt8.ofNat a.toNat = UInt8.ofNat b.toNat) : a = b := by
  have := congrArg UInt8.toNat h
  simp only [UInt8.toNat_ofNat'] at this
  omega
theorem bytes_inj_ : ∀ (a b : List Int), allB a → allB b → Lib.bytesOf a = Lib.bytesOf b → a = b
  | [], [], _, _, _ => rfl
  | [], y :: t, _, _, h => by simp [Lib.bytesOf] at h
  | x :: s, [], _, _, h => by simp [Lib.bytesOf] at h
  | x :: s, y :: t, ha, hb, h => by
    simp only [Lib.bytesOf, List.map_cons, List.cons.injEq] at h
    have hx := ha x (by simp)
    have hy := hb y (by simp)
    rw [byte_inj_ hx.1 hx.2 hy.1 hy.2 h.1, bytes_inj_ s t (fun z hz => ha z (by simp [hz])) (fun z hz => hb z (by simp [hz])) h.2]
theorem strs_eq {a b : List Int} (ha : allB a) (hb : allB b) : ((strOfNums a).toList = (strOfNums b).toList) ↔ a = b := by
  rw [Lib.strOfNums_toList, Lib.strOfNums_toList]
  exact ⟨bytes_inj_ a b ha hb, fun h => by rw [h]⟩
theorem w64 (x : Int) (h0 : -9223372036854775808 ≤ x) (h1 : x < 9223372036854775808) : wrap64 x = x := by unfold wrap64; omega
theorem td (v n : Int) (h : 0 ≤ v) : Int.tdiv v n = v / n := Int.tdiv_eq_ediv_of_nonneg h
theorem tm (v n : Int) (h : 0 ≤ v) : Int.tmod v n = v % n := Int.tmod_eq_emod_of_nonneg h
theorem may_eq {l : List Int} (hb : l.all u8byte = true) : utf_may.f l = some (if (l.length : Int) > 64 then 4 else if valid8 l = true then 0 else 3) := by
  unfold utf_may.f
  by_cases h : (l.length : Int) > 64
  · rw [if_pos h, if_pos h]
  · rw [if_neg h, if_neg h, Valid_eq hb]
    simp only [Option.bind_some]
    cases valid8 l <;> simp
theorem rU_cases (l : List Int) (hl : allB l) (a b : Int) (h1 : 1 ≤ b) (h2 : b ≤ 64) :
    (∃ v n, rU l a b = (v, n, 0) ∧ 0 ≤ v ∧ v < 2 ^ b.toNat ∧ 0 ≤ a ∧ a < n ∧ n ≤ (l.length : Int)) ∨ ∃ e, rU l a b = (0, 0, e) ∧ (e = 1 ∨ e = 2 ∨ e = 3) := by
  unfold rU
  by_cases h : 1 ≤ b ∧ b ≤ 64 ∧ 0 ≤ a ∧ a ≤ (l.length : Int)
  · rw [if_pos h]
    rcases take7_tells ((b.toNat + 6) / 7) (l.drop a.toNat) (allB_drop hl _) with ⟨g1, g2, g3, t, g4⟩ | g | g
    · rw [if_pos g1]
      by_cases hv : val (take7 ((b.toNat + 6) / 7) (l.drop a.toNat)).2 < 2 ^ b.toNat
      · rw [if_pos hv]
        refine .inl ⟨_, _, rfl, val_nonneg g2, hv, h.2.2.1, ?_, ?_⟩
        · have := g2.pos
          omega
        · have := congrArg List.length g4
          rw [List.length_append, List.length_drop] at this
          omega
      · rw [if_neg hv]
        exact .inr ⟨3, rfl, by omega⟩
    · rw [if_neg (by omega), g]
      exact .inr ⟨2, rfl, by omega⟩
    · rw [if_neg (by omega), g]
      exact .inr ⟨3, rfl, by omega⟩
  · rw [if_neg h]
    exact .inr ⟨1, rfl, by omega⟩
theorem ite_some {α : Type} {c : Prop} [Decidable c] (a b : α) : ∃ r, (if c then some a else some b) = some r := by
  split <;> exact ⟨_, rfl⟩
/-- A name at any place in any bytes: something is told. -/
theorem name_tot (l : List Int) (hb : l.all u8byte = true) (hL : l.length ≤ 100000) (a : Int) : ∃ r, utf_Name.f l a = some r := by
  unfold utf_Name.f
  have hB := allB_of hb
  rw [ReadU_f l hB a 32 (by omega)]
  simp only [Option.bind_some]
  rcases rU_cases l hB a 32 (by omega) (by omega) with ⟨v, n, h, h1, h2, h3, h4, h5⟩ | ⟨e, h, h1⟩
  · rw [h]
    simp only
    have h2' : v < 4294967296 := h2
    rw [if_pos trivial, w64 ((l.length : Int) - n) (by omega) (by omega), wrap_u64, Int.emod_eq_of_lt (a := (l.length : Int) - n) (by omega) (by omega), w64 v (by omega) (by omega), w64 (n + v) (by omega) (by omega)]
    by_cases c1 : v > (l.length : Int) - n
    · rw [if_pos c1]
      exact ⟨_, rfl⟩
    · rw [if_neg c1, if_pos (by omega), if_pos (by omega), if_pos (by omega)]
      have hc : ((l.take (n + v).toNat).drop n.toNat).all u8byte = true := drop_byte (take_byte hb _) _
      rw [may_eq hc]
      simp only [Option.bind_some]
      exact ite_some _ _
  · rw [h]
    simp only
    rw [if_neg (by omega)]
    exact ⟨_, rfl⟩
end Go.Proofs.YtoeknjmdlmhajaaDoor.Pure
