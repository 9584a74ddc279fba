/- LebOrder: numbers that are laid one behind the other, signed ones behind the others, are read in that order as they were laid. -/
import Derived.Test.YtiohdianmddfkaaG5
import Derived.Test.YtiohdianmddfkaaLebR
set_option linter.unusedVariables false
namespace Go.Proofs.Ytiohdianmddfkaa.Pure
open Go.RowKit Go.Proofs.Ytiohdianmddfkaa.G Go.Proofs.YtiohdianmddfkaaW.PrintWords Go.Proofs.YtiohdianmddfkaaW.PrintLast Go.Proofs.YtiohdianmddfkaaW.PrintMore Go.Proofs.Ytiohdianmddfkaa.LebM Go.Proofs.Ytiohdianmddfkaa.LebU Go.Proofs.Ytiohdianmddfkaa.LebR

def cU (l : List Int) : List Int := l.flatMap (uB 9)
def cS (l : List Int) : List Int := l.flatMap (sB 9)
def okU (l : List Int) : Prop := ∀ x ∈ l, 0 ≤ x ∧ x < 18446744073709551616
def okS (l : List Int) : Prop := ∀ x ∈ l, -9223372036854775808 ≤ x ∧ x < 9223372036854775808
theorem cU_drop (l : List Int) (i : Nat) (h : i < l.length) : cU (l.drop i) = uB 9 (rd l (i : Int)) ++ cU (l.drop (i + 1)) := by
  unfold cU; rw [drop_at l i h, List.flatMap_cons]
theorem cS_drop (l : List Int) (i : Nat) (h : i < l.length) : cS (l.drop i) = sB 9 (rd l (i : Int)) ++ cS (l.drop (i + 1)) := by
  unfold cS; rw [drop_at l i h, List.flatMap_cons]
theorem cU_len (l : List Int) : (cU l).length ≤ 10 * l.length := by
  induction l with
  | nil => simp [cU]
  | cons a t ih => have := uB_len 9 a; simp only [cU, List.flatMap_cons, List.length_append, List.length_cons] at *; omega
theorem cS_len (l : List Int) : (cS l).length ≤ 10 * l.length := by
  induction l with
  | nil => simp [cS]
  | cons a t ih => have := sB_len 9 a; simp only [cS, List.flatMap_cons, List.length_append, List.length_cons] at *; omega
theorem rd_mem (l : List Int) (i : Nat) (h : i < l.length) : rd l (i : Int) ∈ l := by rw [rd_at l i h]; exact List.getElem_mem h
theorem order_l0 (l m : List Int) (hu : okU l) (hl : l.length ≤ 50) : ∀ (d k i : Nat) (b : List Int), i + d = l.length → d + 10 < k → b.length + 10 * d ≤ 1000 →
    avocetlaw01_LebOrder.l0 k l m true b (i : Int) = avocetlaw01_LebOrder.l1 (k - d - 1) l m true (b ++ cU (l.drop i)) 0
  | 0, k, i, b, h, hk, hb => by
    obtain ⟨k, rfl⟩ : ∃ m, k = m + 1 := ⟨k - 1, by omega⟩
    simp only [avocetlaw01_LebOrder.l0]
    rw [if_neg (by omega), List.drop_eq_nil_of_le (by omega)]
    simp [cU]
  | d + 1, k, i, b, h, hk, hb => by
    obtain ⟨k, rfl⟩ : ∃ m, k = m + 1 := ⟨k - 1, by omega⟩
    simp only [avocetlaw01_LebOrder.l0]
    have hv := hu _ (rd_mem l i (by omega))
    have hlen := uB_len 9 (rd l (i : Int))
    rw [if_pos (by omega), if_pos (by omega), U_f k b _ hv.1 hv.2 (by omega) (by omega), Option.bind_some, wrap64_id _ (by omega) (by omega)]
    have := order_l0 l m hu hl d k (i + 1) (b ++ uB 9 (rd l (i : Int))) (by omega) (by omega) (by simp; omega)
    rw [show ((i + 1 : Nat) : Int) = (i : Int) + 1 by omega] at this
    rw [this, cU_drop l i (by omega), List.append_assoc]
    congr 1
    omega
theorem order_l1 (l m : List Int) (hs : okS m) (hm : m.length ≤ 50) : ∀ (d k i : Nat) (b : List Int), i + d = m.length → d + 10 < k → b.length + 10 * d ≤ 1000 →
    avocetlaw01_LebOrder.l1 k l m true b (i : Int) = avocetlaw01_LebOrder.l2 (k - d - 1) l m true (b ++ cS (m.drop i)) 0 0
  | 0, k, i, b, h, hk, hb => by
    obtain ⟨k, rfl⟩ : ∃ m, k = m + 1 := ⟨k - 1, by omega⟩
    simp only [avocetlaw01_LebOrder.l1]
    rw [if_neg (by omega), List.drop_eq_nil_of_le (by omega)]
    simp [cS]
  | d + 1, k, i, b, h, hk, hb => by
    obtain ⟨k, rfl⟩ : ∃ m, k = m + 1 := ⟨k - 1, by omega⟩
    simp only [avocetlaw01_LebOrder.l1]
    have hv := hs _ (rd_mem m i (by omega))
    have hlen := sB_len 9 (rd m (i : Int))
    rw [if_pos (by omega), if_pos (by omega), S_f k b _ hv.1 hv.2 (by omega) (by omega), Option.bind_some, wrap64_id _ (by omega) (by omega)]
    have := order_l1 l m hs hm d k (i + 1) (b ++ sB 9 (rd m (i : Int))) (by omega) (by omega) (by simp; omega)
    rw [show ((i + 1 : Nat) : Int) = (i : Int) + 1 by omega] at this
    rw [this, cS_drop m i (by omega), List.append_assoc]
    congr 1
    omega
theorem order_l3 (m : List Int) (hs : okS m) (T : List Int) (hT : allB T) (hTl : T.length ≤ 1000) : ∀ (d k i : Nat) (pre : List Int), i + d = m.length → d + 1 < k → T = pre ++ cS (m.drop i) → m.length ≤ 50 →
    avocetlaw01_LebOrder.l3 k m true T (pre.length : Int) (i : Int) = some true
  | 0, k, i, pre, h, hk, e, _ => by
    obtain ⟨k, rfl⟩ : ∃ m, k = m + 1 := ⟨k - 1, by omega⟩
    simp only [avocetlaw01_LebOrder.l3]
    rw [List.drop_eq_nil_of_le (by omega)] at e
    rw [if_neg (by omega), e]
    simp [cS]
  | d + 1, k, i, pre, h, hk, e, hi => by
    obtain ⟨k, rfl⟩ : ∃ m, k = m + 1 := ⟨k - 1, by omega⟩
    simp only [avocetlaw01_LebOrder.l3]
    have hv := hs _ (rd_mem m i (by omega))
    have hG := sB_grp 9 (rd m (i : Int)) (by omega) (by omega)
    have hval := sB_val 9 (rd m (i : Int)) (by omega) (by omega)
    have hlen := sB_len 9 (rd m (i : Int))
    rw [cS_drop m i (by omega)] at e
    have hR := rS_at pre (sB 9 (rd m (i : Int))) (cS (m.drop (i + 1))) hG 64 (by omega) (by omega) (by omega) (by rw [hval]; exact hv.1) (by rw [hval]; exact hv.2)
    rw [if_pos (by omega), ReadS_f k (by omega) T hT _ _ (by omega), Option.bind_some, e]
    rw [show ((64 : Nat) : Int) = 64 from rfl] at hR
    rw [hR, hval]
    simp only [if_true]
    rw [if_pos (by omega), wrap64_id _ (by omega) (by omega), ← e]
    have := order_l3 m hs T hT hTl d k (i + 1) (pre ++ sB 9 (rd m (i : Int))) (by omega) (by omega) (by rw [e, List.append_assoc]) hi
    rw [show ((i + 1 : Nat) : Int) = (i : Int) + 1 by omega, List.length_append, Int.natCast_add] at this
    exact this
theorem order_l2 (l m : List Int) (hu : okU l) (hs : okS m) (T : List Int) (hT : allB T) (hTl : T.length ≤ 1000) (hm : m.length ≤ 50) : ∀ (d k i : Nat) (pre : List Int), i + d = l.length → d + 60 < k → T = pre ++ (cU (l.drop i) ++ cS m) → l.length ≤ 50 →
    avocetlaw01_LebOrder.l2 k l m true T (pre.length : Int) (i : Int) = some true
  | 0, k, i, pre, h, hk, e, _ => by
    obtain ⟨k, rfl⟩ : ∃ m, k = m + 1 := ⟨k - 1, by omega⟩
    simp only [avocetlaw01_LebOrder.l2]
    rw [List.drop_eq_nil_of_le (by omega)] at e
    rw [if_neg (by omega)]
    exact order_l3 m hs T hT hTl m.length k 0 pre (by omega) (by omega) (by rw [e]; simp [cU]) hm
  | d + 1, k, i, pre, h, hk, e, hi => by
    obtain ⟨k, rfl⟩ : ∃ m, k = m + 1 := ⟨k - 1, by omega⟩
    simp only [avocetlaw01_LebOrder.l2]
    have hv := hu _ (rd_mem l i (by omega))
    have hG := uB_grp 9 (rd l (i : Int)) hv.1 (by omega)
    have hval := uB_val 9 (rd l (i : Int)) hv.1 (by omega)
    have hlen := uB_len 9 (rd l (i : Int))
    rw [cU_drop l i (by omega), List.append_assoc] at e
    have hR := rU_at pre (uB 9 (rd l (i : Int))) (cU (l.drop (i + 1)) ++ cS m) hG 64 (by omega) (by omega) (by omega) (by rw [hval]; exact hv.2)
    rw [if_pos (by omega), ReadU_f T hT _ _ (by omega), Option.bind_some, e]
    rw [show ((64 : Nat) : Int) = 64 from rfl] at hR
    rw [hR, hval]
    simp only [if_true]
    rw [if_pos (by omega), wrap64_id _ (by omega) (by omega), ← e]
    have := order_l2 l m hu hs T hT hTl hm d k (i + 1) (pre ++ uB 9 (rd l (i : Int))) (by omega) (by omega) (by rw [e, List.append_assoc]) hi
    rw [show ((i + 1 : Nat) : Int) = (i : Int) + 1 by omega, List.length_append, Int.natCast_add] at this
    exact this
theorem LebOrder : avocetlaw01_LebOrder.Pure := by
  intro l m _ _ hl _ _ hm
  have hu : okU l := fun x hx => wf_u64 (hl x hx)
  have hs : okS m := fun x hx => wf_i64 (hm x hx)
  refine ⟨300, ?_⟩
  unfold avocetlaw01_LebOrder.f
  rw [awake_f 300 (by omega), Option.bind_some]
  by_cases hc : (l.length : Int) > 50
  · rw [if_pos hc]
    simp [avocetlaw01_LebOrder.j0]
  · rw [if_neg hc]
    by_cases hd : (m.length : Int) > 50
    · simp [avocetlaw01_LebOrder.j0, hd]
    · simp only [avocetlaw01_LebOrder.j0, decide_eq_false hd, Bool.false_eq_true, if_false]
      have h0 := order_l0 l m hu (by omega) l.length 299 0 [] (by omega) (by omega) (by simp; omega)
      have hcu := cU_len l
      have hcs := cS_len m
      rw [show ((0 : Nat) : Int) = 0 from rfl] at h0
      rw [h0, List.drop_zero, List.nil_append]
      have h1 := order_l1 l m hs (by omega) m.length (299 - l.length - 1) 0 (cU l) (by omega) (by omega) (by omega)
      rw [show ((0 : Nat) : Int) = 0 from rfl] at h1
      rw [h1, List.drop_zero]
      have hT : allB (cU l ++ cS m) := by
        intro x hx
        rw [List.mem_append] at hx
        rcases hx with hx | hx
        · obtain ⟨a, ha, hx⟩ := List.mem_flatMap.1 hx
          exact (uB_grp 9 a (hu a ha).1 (by have := (hu a ha).2; omega)).bytes x hx
        · obtain ⟨a, ha, hx⟩ := List.mem_flatMap.1 hx
          exact (sB_grp 9 a (by have := (hs a ha).1; omega) (by have := (hs a ha).2; omega)).bytes x hx
      exact order_l2 l m hu hs (cU l ++ cS m) hT (by simp; omega) (by omega) l.length _ 0 [] (by omega) (by omega) (by simp) (by omega)

end Go.Proofs.Ytiohdianmddfkaa.Pure
