/- layer 04: what reading and laying a function's type and limits comes to. -/
import Derived.Test.YthddcbfgdpfcjaaG
import Derived.Test.YthddcbfgdpfcjaaTyP
import Derived.Test.YthddcbfgdpfcjaaTyR
set_option linter.unusedVariables false
set_option linter.unusedSimpArgs false
namespace Go.Proofs.Ythddcbfgdpfcjaa.TyF
open Go.RowKit Go.Proofs.Ythddcbfgdpfcjaa.G Go.Proofs.YthddcbfgdpfcjaaW.PrintWords Go.Proofs.YthddcbfgdpfcjaaW.PrintLast Go.Proofs.YthddcbfgdpfcjaaW.PrintMore Go.Proofs.Ythddcbfgdpfcjaa.LebM Go.Proofs.Ythddcbfgdpfcjaa.TyR Go.Proofs.Ythddcbfgdpfcjaa.TyP
abbrev Big (l : List Int) : Prop := l.length < 1000000000000
def nx (l : List Int) (i : Int) : Int × Int := if i < 0 ∨ i > (l.length : Int) then (0, 1) else if i = (l.length : Int) then (0, 2) else (rd l i, 0)
theorem next_f (k : Nat) (l : List Int) (i : Int) : types_next.f (k + 1) l i = some (nx l i) := by
  unfold types_next.f nx
  by_cases h : i < 0
  · rw [if_pos h, if_pos (.inl h)]
    simp [types_next.j0]
  · rw [if_neg h]
    by_cases h2 : i > (l.length : Int)
    · rw [if_pos (.inr h2), decide_eq_true h2]
      simp [types_next.j0]
    · rw [if_neg (by omega), decide_eq_false h2]
      simp only [types_next.j0]
      rw [if_neg (by simp)]
      by_cases h3 : i = (l.length : Int)
      · rw [if_pos h3, if_pos h3]
      · rw [if_neg h3, if_neg h3, if_pos (by omega), if_pos (by omega)]
theorem val_f (c : Int) : types_val.f c = some (tySane_okT c) := by
  unfold types_val.f tySane_okT
  by_cases h : c = 127
  · rw [if_pos h]; simp [h]
  · rw [if_neg h]; simp [h]
theorem Val_f (k : Nat) (l : List Int) (x : Nat) (hx : x ≤ l.length) (hb : Big l) : types_Val.f (k + 1) l (x : Int) = some (if x < l.length then (if tySane_okT (rd l (x : Int)) = true then (rd l (x : Int), (x : Int) + 1, 0) else (0, 0, 3)) else (0, 0, 2)) := by
  have hb : l.length < 1000000000000 := hb
  have h64 : wrap64 ((x : Int) + 1) = (x : Int) + 1 := by unfold wrap64; omega
  unfold types_Val.f
  rw [next_f, Option.bind_some]
  by_cases h : x < l.length
  · have e : nx l (x : Int) = (rd l (x : Int), 0) := by unfold nx; rw [if_neg (by omega), if_neg (by omega)]
    rw [e, if_pos h, if_pos rfl, val_f, Option.bind_some, h64]
    by_cases hv : tySane_okT (rd l (x : Int)) = true
    · rw [if_pos hv, if_pos hv]
    · rw [if_neg hv, if_neg hv]
  · have e : nx l (x : Int) = (0, 2) := by unfold nx; rw [if_neg (by omega), if_pos (by omega)]
    rw [e, if_neg h, if_neg (by decide)]
def lw (l : List Int) : Nat → Nat → Int × Nat
  | 0, x => (0, x)
  | n + 1, x => if x < l.length then (if tySane_okT (rd l (x : Int)) = true then lw l n (x + 1) else (3, x)) else (2, x)
theorem lw_tells (l : List Int) : ∀ (n x : Nat), x ≤ l.length → ((lw l n x).1 = 0 ∧ (lw l n x).2 = x + n ∧ x + n ≤ l.length ∧ ((l.take (x + n)).drop x).all tySane_okT = true) ∨ (lw l n x).1 = 2 ∨ (lw l n x).1 = 3
  | 0, x, h => .inl ⟨rfl, rfl, h, by simp⟩
  | n + 1, x, h => by
    simp only [lw]
    by_cases h1 : x < l.length
    · rw [if_pos h1]
      by_cases h2 : tySane_okT (rd l (x : Int)) = true
      · rw [if_pos h2]
        rcases lw_tells l n (x + 1) h1 with ⟨a, b, c, d⟩ | a
        · refine .inl ⟨a, by omega, by omega, ?_⟩
          have e : (l.take (x + (n + 1))).drop x = rd l (x : Int) :: (l.take (x + 1 + n)).drop (x + 1) := by
            rw [drop_at (l.take (x + (n + 1))) x (by simp; omega)]
            have e1 : rd (l.take (x + (n + 1))) (x : Int) = rd l (x : Int) := by
              rw [rd_at _ x (by simp; omega), rd_at _ x h1, List.getElem_take]
            rw [e1, show x + (n + 1) = x + 1 + n by omega]
          rw [e, List.all_cons, h2, d]; rfl
        · exact .inr a
      · rw [if_neg h2]; exact .inr (.inr rfl)
    · rw [if_neg h1]; exact .inr (.inl rfl)
theorem list_l0 (l : List Int) (hb : Big l) (cnt fr : Nat) (hc : cnt ≤ 100) : ∀ (n i x k : Nat), i + n = cnt → n + 2 ≤ k → x ≤ l.length → fr ≤ x →
    types_list.l0 k l (x : Int) (fr : Int) (cnt : Int) (i : Int) = some (if (lw l n x).1 = 0 then ((l.take (lw l n x).2).drop fr, ((lw l n x).2 : Int), 0) else ([], 0, (lw l n x).1))
  | 0, i, x, k, hi, hk, hx, hf => by
    have hb : l.length < 1000000000000 := hb
    obtain ⟨k, rfl⟩ : ∃ j, k = j + 1 := ⟨k - 1, by omega⟩
    simp only [types_list.l0, lw]
    rw [if_neg (by omega), if_pos (by omega), if_pos (by omega), if_pos (by omega)]
    unfold bytes_Clone.f
    rw [if_pos (by simp; omega), Option.bind_some]
    simp
  | n + 1, i, x, k, hi, hk, hx, hf => by
    obtain ⟨k, rfl⟩ : ∃ j, k = j + 2 := ⟨k - 2, by omega⟩
    have hw : IntKind.u64.wrap ((i : Int) + 1) = ((i + 1 : Nat) : Int) := by rw [IntKind.wrap_u64]; omega
    simp only [types_list.l0, lw]
    rw [if_pos (by omega), Val_f k l x hx hb, Option.bind_some]
    by_cases h1 : x < l.length
    · by_cases h2 : tySane_okT (rd l (x : Int)) = true
      · simp only [if_pos h1, if_pos h2, if_true, hw]
        exact list_l0 l hb cnt fr hc n (i + 1) (x + 1) (k + 1) (by omega) (by omega) (by omega) (by omega)
      · simp only [if_pos h1, if_neg h2]
        simp
    · simp only [if_neg h1]
      simp
theorem rU_ok {l : List Int} (hl : allB l) {a : Int} {b : Nat} (h : (rU l a b).2.2 = 0) : 0 ≤ (rU l a b).1 ∧ (rU l a b).1 < 2 ^ b ∧ 0 ≤ a ∧ a < (rU l a b).2.1 ∧ (rU l a b).2.1 ≤ (l.length : Int) ∧ ∃ g, Grp g ∧ val g = (rU l a b).1 ∧ a + g.length = (rU l a b).2.1 := by
  unfold rU at h ⊢
  by_cases h1 : 1 ≤ (b : Int) ∧ (b : Int) ≤ 64 ∧ 0 ≤ a ∧ a ≤ (l.length : Int)
  · rw [if_pos h1] at h
    rw [if_pos h1]
    by_cases h2 : (take7 (((b : Int).toNat + 6) / 7) (l.drop a.toNat)).1 = 0
    · rw [if_pos h2] at h
      rw [if_pos h2]
      by_cases h3 : val (take7 (((b : Int).toNat + 6) / 7) (l.drop a.toNat)).2 < 2 ^ ((b : Int).toNat)
      · rw [if_pos h3]
        rcases take7_tells (((b : Int).toNat + 6) / 7) (l.drop a.toNat) (allB_drop hl _) with ⟨_, hG, hm, t, ht⟩ | h4 | h4
        · have hp := hG.pos
          have hlen := congrArg List.length ht
          simp only [List.length_drop, List.length_append] at hlen
          refine ⟨val_nonneg hG, by simpa using h3, h1.2.2.1, by simp only; omega, by simp only; omega, _, hG, rfl, rfl⟩
        · omega
        · omega
      · rw [if_neg h3] at h; exact absurd h (by decide)
    · rw [if_neg h2] at h; exact absurd h h2
  · rw [if_neg h1] at h; exact absurd h (by decide)
theorem rU_ok32 {l : List Int} (hl : allB l) {a : Int} (h : (rU l a 32).2.2 = 0) : 0 ≤ (rU l a 32).1 ∧ (rU l a 32).1 < 4294967296 ∧ 0 ≤ a ∧ a < (rU l a 32).2.1 ∧ (rU l a 32).2.1 ≤ (l.length : Int) ∧ ∃ g, Grp g ∧ val g = (rU l a 32).1 ∧ a + g.length = (rU l a 32).2.1 := by
  have := rU_ok (b := 32) hl h
  exact ⟨this.1, by have := this.2.1; simpa using this, this.2.2⟩
def lst (l : List Int) (at_ most : Int) : List Int × Int × Int :=
  if (rU l at_ 32).2.2 = 0 then (if (rU l at_ 32).1 > most then ([], 0, 4) else (if (lw l (rU l at_ 32).1.toNat (rU l at_ 32).2.1.toNat).1 = 0 then ((l.take (lw l (rU l at_ 32).1.toNat (rU l at_ 32).2.1.toNat).2).drop (rU l at_ 32).2.1.toNat, ((lw l (rU l at_ 32).1.toNat (rU l at_ 32).2.1.toNat).2 : Int), 0) else ([], 0, (lw l (rU l at_ 32).1.toNat (rU l at_ 32).2.1.toNat).1))) else ([], 0, (rU l at_ 32).2.2)
theorem list_f (k : Nat) (hk : 30 ≤ k) (l : List Int) (hl : allB l) (hb : Big l) (at_ most : Int) (h0 : 0 ≤ most) (h1 : most ≤ 16) : types_list.f k l at_ most = some (lst l at_ most) := by
  have hb' : l.length < 1000000000000 := hb
  have hw : IntKind.u64.wrap most = most := by rw [IntKind.wrap_u64]; omega
  unfold types_list.f lst
  rw [ReadU_f l hl at_ 32 (by omega), Option.bind_some, hw]
  by_cases h2 : (rU l at_ 32).2.2 = 0
  · rw [if_pos h2, if_pos h2]
    by_cases h3 : (rU l at_ 32).1 > most
    · rw [if_pos h3, if_pos h3]
    · rw [if_neg h3, if_neg h3]
      have hr := rU_ok (b := 32) hl h2
      have hr : 0 ≤ (rU l at_ 32).1 ∧ (rU l at_ 32).1 < 2 ^ 32 ∧ 0 ≤ at_ ∧ at_ < (rU l at_ 32).2.1 ∧ (rU l at_ 32).2.1 ≤ (l.length : Int) := ⟨hr.1, hr.2.1, hr.2.2.1, hr.2.2.2.1, hr.2.2.2.2.1⟩
      have := list_l0 l hb (rU l at_ 32).1.toNat (rU l at_ 32).2.1.toNat (by omega) (rU l at_ 32).1.toNat 0 (rU l at_ 32).2.1.toNat k (by omega) (by omega) (by omega) (by omega)
      rw [show (((rU l at_ 32).2.1.toNat : Nat) : Int) = (rU l at_ 32).2.1 by omega, show (((rU l at_ 32).1.toNat : Nat) : Int) = (rU l at_ 32).1 by omega] at this
      exact this
  · rw [if_neg h2, if_neg h2]
theorem lst_ok {l : List Int} (hl : allB l) {a m : Int} (hm : 0 ≤ m) (h : (lst l a m).2.2 = 0) : ∃ n x : Nat, a < (x : Int) ∧ 0 ≤ a ∧ (lst l a m).1 = (l.take (x + n)).drop x ∧ (lst l a m).2.1 = ((x + n : Nat) : Int) ∧ x + n ≤ l.length ∧ (n : Int) ≤ m ∧ (lst l a m).1.length = n ∧ (lst l a m).1.all tySane_okT = true := by
  unfold lst at h ⊢
  by_cases h2 : (rU l a 32).2.2 = 0
  · rw [if_pos h2] at h ⊢
    by_cases h3 : (rU l a 32).1 > m
    · rw [if_pos h3] at h; exact absurd h (by decide)
    · rw [if_neg h3] at h ⊢
      have hr := rU_ok (b := 32) hl h2
      have hr : 0 ≤ (rU l a 32).1 ∧ (rU l a 32).1 < 2 ^ 32 ∧ 0 ≤ a ∧ a < (rU l a 32).2.1 ∧ (rU l a 32).2.1 ≤ (l.length : Int) := ⟨hr.1, hr.2.1, hr.2.2.1, hr.2.2.2.1, hr.2.2.2.2.1⟩
      rcases lw_tells l (rU l a 32).1.toNat (rU l a 32).2.1.toNat (by omega) with ⟨q1, q2, q3, q4⟩ | q | q
      · rw [if_pos q1] at h ⊢
        rw [q2]
        refine ⟨(rU l a 32).1.toNat, (rU l a 32).2.1.toNat, by omega, by omega, rfl, rfl, q3, by omega, by simp; omega, q4⟩
      · rw [if_neg (by omega)] at h; simp only at h; omega
      · rw [if_neg (by omega)] at h; simp only at h; omega
  · rw [if_neg h2] at h; exact absurd h h2
def fn (l : List Int) (at_ : Int) : List Int × List Int × Int × Int :=
  if (nx l at_).2 = 0 then (if (nx l at_).1 = 96 then (if (lst l (at_ + 1) 16).2.2 = 0 then (if (lst l (lst l (at_ + 1) 16).2.1 1).2.2 = 0 then ((lst l (at_ + 1) 16).1, (lst l (lst l (at_ + 1) 16).2.1 1).1, (lst l (lst l (at_ + 1) 16).2.1 1).2.1, 0) else ([], [], 0, (lst l (lst l (at_ + 1) 16).2.1 1).2.2)) else ([], [], 0, (lst l (at_ + 1) 16).2.2)) else ([], [], 0, 3)) else ([], [], 0, (nx l at_).2)
theorem nx_ok {l : List Int} {i : Int} (h : (nx l i).2 = 0) : 0 ≤ i ∧ i < (l.length : Int) ∧ (nx l i).1 = rd l i := by
  unfold nx at h ⊢
  split at h
  · exact absurd h (by decide)
  · split at h
    · exact absurd h (by decide)
    · refine ⟨by omega, by omega, ?_⟩
      rw [if_neg (by omega), if_neg (by omega)]
theorem Func_f (k : Nat) (hk : 30 ≤ k) (l : List Int) (hl : allB l) (hb : Big l) (at_ : Int) : types_Func.f k l at_ = some (fn l at_) := by
  have hb' : l.length < 1000000000000 := hb
  unfold types_Func.f fn
  obtain ⟨j, rfl⟩ : ∃ j, k = j + 1 := ⟨k - 1, by omega⟩
  rw [next_f, Option.bind_some]
  by_cases h1 : (nx l at_).2 = 0
  · have hn := nx_ok h1
    have h64 : wrap64 (at_ + 1) = at_ + 1 := by unfold wrap64; omega
    rw [if_pos h1, if_pos h1]
    by_cases h2 : (nx l at_).1 = 96
    · rw [if_pos h2, if_pos h2, h64, list_f (j + 1) hk l hl hb _ 16 (by omega) (by omega), Option.bind_some]
      by_cases h3 : (lst l (at_ + 1) 16).2.2 = 0
      · rw [if_pos h3, if_pos h3, list_f (j + 1) hk l hl hb _ 1 (by omega) (by omega), Option.bind_some]
        split <;> rfl
      · rw [if_neg h3, if_neg h3]
    · rw [if_neg h2, if_neg h2]
  · rw [if_neg h1, if_neg h1]
def lm (l : List Int) (at_ : Int) : Int × Int × Bool × Int × Int :=
  if (nx l at_).2 = 0 then (if (nx l at_).1 > 1 then (0, 0, false, 0, 3) else (if (rU l (at_ + 1) 32).2.2 = 0 then (if (nx l at_).1 = 0 then ((rU l (at_ + 1) 32).1, 0, false, (rU l (at_ + 1) 32).2.1, 0) else (if (rU l (rU l (at_ + 1) 32).2.1 32).2.2 = 0 then ((rU l (at_ + 1) 32).1, (rU l (rU l (at_ + 1) 32).2.1 32).1, true, (rU l (rU l (at_ + 1) 32).2.1 32).2.1, 0) else (0, 0, false, 0, (rU l (rU l (at_ + 1) 32).2.1 32).2.2))) else (0, 0, false, 0, (rU l (at_ + 1) 32).2.2))) else (0, 0, false, 0, (nx l at_).2)
theorem Limits_f (l : List Int) (hl : allB l) (hb : Big l) (at_ : Int) : types_Limits.f l at_ = some (lm l at_) := by
  have hb' : l.length < 1000000000000 := hb
  unfold types_Limits.f lm
  rw [next_f 0, Option.bind_some]
  by_cases h1 : (nx l at_).2 = 0
  · have hn := nx_ok h1
    have h64 : wrap64 (at_ + 1) = at_ + 1 := by unfold wrap64; omega
    have hc : 0 ≤ (nx l at_).1 := by
      rw [hn.2.2]
      have := rd_at l at_.toNat (by omega)
      rw [show ((at_.toNat : Nat) : Int) = at_ by omega] at this
      rw [this]
      exact (hl _ (List.getElem_mem _)).1
    rw [if_pos h1, if_pos h1]
    by_cases h2 : (nx l at_).1 > 1
    · rw [if_pos h2, if_pos h2]
    · rw [if_neg h2, if_neg h2, if_pos hc, h64, ReadU_f l hl _ 32 (by omega), Option.bind_some]
      by_cases h3 : (rU l (at_ + 1) 32).2.2 = 0
      · have hr := rU_ok (b := 32) hl h3
        have hv : (rU l (at_ + 1) 32).1 < 4294967296 := by have := hr.2.1; simpa using this
        have e1 : wrap64 (rU l (at_ + 1) 32).1 = (rU l (at_ + 1) 32).1 := wrap64_id _ (by have h_ : 0 ≤ (rU l (at_ + 1) 32).1 := hr.1; omega) (by omega)
        rw [if_pos h3, if_pos h3]
        by_cases h4 : (nx l at_).1 = 0
        · rw [if_pos h4, if_pos h4, e1]
        · rw [if_neg h4, if_neg h4, ReadU_f l hl _ 32 (by omega), Option.bind_some]
          by_cases h5 : (rU l (rU l (at_ + 1) 32).2.1 32).2.2 = 0
          · have hr2 := rU_ok (b := 32) hl h5
            have hv2 : (rU l (rU l (at_ + 1) 32).2.1 32).1 < 4294967296 := by have := hr2.2.1; simpa using this
            have e2 : wrap64 (rU l (rU l (at_ + 1) 32).2.1 32).1 = (rU l (rU l (at_ + 1) 32).2.1 32).1 := wrap64_id _ (by have h_ : 0 ≤ (rU l (rU l (at_ + 1) 32).2.1 32).1 := hr2.1; omega) (by omega)
            rw [if_pos h5, if_pos h5, e1, e2]
          · rw [if_neg h5, if_neg h5]
      · rw [if_neg h3, if_neg h3]
  · rw [if_neg h1, if_neg h1]
def pl (l : List Int) (m x : Int) (h : Bool) : List Int × Int :=
  if 0 ≤ m ∧ m ≤ 4294967295 ∧ 0 ≤ x ∧ x ≤ 4294967295 ∧ (h = true ∨ x = 0) then (if x = 0 ∧ h = false then (l ++ [0] ++ uB 9 m, 0) else (l ++ [1] ++ uB 9 m ++ uB 9 x, 0)) else ([], 1)
theorem PutLimits_f (k : Nat) (hk : 20 ≤ k) (l : List Int) (hb : Big l) (m x : Int) (h : Bool) : types_PutLimits.f k l m x h = some (pl l m x h) := by
  have hb' : l.length < 1000000000000 := hb
  obtain ⟨j, rfl⟩ : ∃ j, k = j + 1 := ⟨k - 1, by omega⟩
  have jt : types_PutLimits.j0 (j + 1) l true m x h m 0 false = some ([], 1) := by simp [types_PutLimits.j0]
  have jf : 0 ≤ m → m ≤ 4294967295 → 0 ≤ x → x ≤ 4294967295 → types_PutLimits.j0 (j + 1) l false m x h m 0 false = some (if x = 0 ∧ h = false then (l ++ [0] ++ uB 9 m, 0) else (l ++ [1] ++ uB 9 m ++ uB 9 x, 0)) := by
    intro q1 q2 q3 q4
    have w1 : IntKind.u64.wrap m = m := by rw [IntKind.wrap_u64]; omega
    have w2 : IntKind.u64.wrap x = x := by rw [IntKind.wrap_u64]; omega
    have hc : bytes_Clone.f l = some l := by unfold bytes_Clone.f; rw [if_pos (by omega)]
    have hl9 := uB_len 9 m
    simp only [types_PutLimits.j0]
    rw [if_neg (by simp)]
    by_cases h5 : x = 0 ∧ h = false
    · rw [if_pos (by simp [h5]), if_pos h5, hc, w1, Option.bind_some, Option.bind_some, if_pos (by simp; omega), U_f j _ m (by omega) (by omega) (by omega) (by simp; omega), Option.bind_some]
    · have h6 : ¬ (m == m && (x == 0 && h == false)) = true := by
        intro h6
        simp only [beq_self_eq_true, Bool.true_and, Bool.and_eq_true, beq_iff_eq] at h6
        exact h5 h6
      rw [if_neg h6, if_neg h5, hc, w1, w2, Option.bind_some, Option.bind_some, if_pos (by simp; omega), U_f j _ m (by omega) (by omega) (by omega) (by simp; omega), Option.bind_some, U_f j _ x (by omega) (by omega) (by omega) (by simp; omega), Option.bind_some]
  unfold types_PutLimits.f pl
  by_cases h1 : m < 0
  · rw [if_pos h1, jt, if_neg (by omega)]
  · rw [if_neg h1]
    by_cases h2 : m > 4294967295
    · rw [if_pos h2, jt, if_neg (by omega)]
    · rw [if_neg h2]
      by_cases h3 : x < 0
      · rw [if_pos h3, jt, if_neg (by omega)]
      · rw [if_neg h3]
        by_cases h4 : x > 4294967295
        · rw [if_pos h4, jt, if_neg (by omega)]
        · rw [if_neg h4]
          cases h with
          | true =>
            rw [if_pos (show true = true from rfl), jf (by omega) (by omega) (by omega) (by omega)]
            rw [if_pos (show 0 ≤ m ∧ m ≤ 4294967295 ∧ 0 ≤ x ∧ x ≤ 4294967295 ∧ (true = true ∨ x = 0) from ⟨by omega, by omega, by omega, by omega, .inl rfl⟩)]
          | false =>
            rw [if_neg (show ¬ false = true by simp)]
            by_cases h5 : x = 0
            · rw [show (!(x == 0) || false) = false by simp [h5], jf (by omega) (by omega) (by omega) (by omega)]
              rw [if_pos (show 0 ≤ m ∧ m ≤ 4294967295 ∧ 0 ≤ x ∧ x ≤ 4294967295 ∧ (false = true ∨ x = 0) from ⟨by omega, by omega, by omega, by omega, .inr h5⟩)]
            · rw [show (!(x == 0) || false) = true by simp [h5], jt, if_neg (by simp [h5])]
theorem uB_le : ∀ (m k : Nat) (v : Int), 0 ≤ v → v < 128 ^ (m + 1) → (uB k v).length ≤ m + 1
  | m, 0, v, _, _ => by simp [uB]
  | m, k + 1, v, h0, h1 => by
    unfold uB
    split
    · cases m with
      | zero => simp at h1; omega
      | succ m =>
        have := uB_le m k (v / 128) (by omega) (by rw [Int.pow_succ] at h1; omega)
        simp; omega
    · simp
theorem grp_val_lt {g : List Int} (h : Grp g) : val g < 128 ^ g.length := by
  have := val_lt h
  have e : (2 : Int) ^ (7 * g.length) = 128 ^ g.length := by rw [Int.pow_mul]; rfl
  rw [e] at this
  exact this
theorem uB_min {g : List Int} (h : Grp g) : (uB 9 (val g)).length ≤ g.length := by
  have hp := h.pos
  have := uB_le (g.length - 1) 9 (val g) (val_nonneg h) (by rw [show g.length - 1 + 1 = g.length by omega]; exact grp_val_lt h)
  omega
end Go.Proofs.Ythddcbfgdpfcjaa.TyF
