/- LebBack: a number that is laid is read as it was by its width and any greater one, by a lesser one it is not, and a byte less is too short. -/
import Derived.Test.YtiohdianmddfkaaG7
import Derived.Test.YtiohdianmddfkaaLebR
set_option linter.unusedVariables false
namespace Go.Proofs.Ytiohdianmddfkaa.Pure
open Go.RowKit Go.Proofs.Ytiohdianmddfkaa.G Go.Proofs.YtiohdianmddfkaaW.PrintWords Go.Proofs.YtiohdianmddfkaaW.PrintLast Go.Proofs.YtiohdianmddfkaaW.PrintMore Go.Proofs.Ytiohdianmddfkaa.LebM Go.Proofs.Ytiohdianmddfkaa.LebU Go.Proofs.Ytiohdianmddfkaa.LebR

theorem shl_u64 (w : Nat) (h : w < 64) : shl .u64 1 (IntKind.u64.wrap (w : Int)) = 2 ^ w := by
  have hp : (2 : Nat) ^ w ≤ 2 ^ 63 := Nat.pow_le_pow_right (by omega) (by omega)
  have e : ((2 : Int) ^ w) = ((2 ^ w : Nat) : Int) := by simp
  rw [wrap_u64, Int.emod_eq_of_lt (by omega) (by omega)]
  unfold shl
  rw [Int.toNat_natCast, Nat.min_eq_left (by simp [IntKind.bits]; omega), wrap_u64, Int.one_mul, e]
  clear e
  generalize (2 : Nat) ^ w = P at *
  omega
theorem shl_i64 (w : Nat) (h : w < 63) (x : Int) (hx : x = 1 ∨ x = -1) : shl .i64 x (IntKind.u64.wrap (w : Int)) = x * 2 ^ w := by
  have hp : (2 : Nat) ^ w ≤ 2 ^ 62 := Nat.pow_le_pow_right (by omega) (by omega)
  have e : ((2 : Int) ^ w) = ((2 ^ w : Nat) : Int) := by simp
  rw [wrap_u64, Int.emod_eq_of_lt (by omega) (by omega)]
  unfold shl
  rw [Int.toNat_natCast, Nat.min_eq_left (by simp [IntKind.bits]; omega), IntKind.wrap_i64, e]
  clear e
  generalize (2 : Nat) ^ w = P at *
  rcases hx with rfl | rfl <;> omega
theorem rU_yes (a0 : Int) (h0 : 0 ≤ a0) (w : Nat) (h1 : 1 ≤ w) (h2 : w ≤ 64) (h : a0 < 2 ^ w) (l : List Int) : rU (uB 9 a0 ++ l) 0 w = (a0, ((uB 9 a0).length : Int), 0) := by
  have hp : (2 : Int) ^ w ≤ 2 ^ 64 := by exact_mod_cast Nat.pow_le_pow_right (by omega) h2
  have hG := uB_grp 9 a0 h0 (by omega)
  have hv := uB_val 9 a0 h0 (by omega)
  have hL := uB_length 9 a0 h0 (by omega) (by omega)
  have hb : Lib.bitLen a0.toNat ≤ w := bitLen_le _ w (by
    have e : ((2 : Int) ^ w) = ((2 ^ w : Nat) : Int) := by simp
    rw [e] at h; omega)
  have := rU_at [] (uB 9 a0) l hG w h1 h2 (by omega) (by rw [hv]; exact h)
  rw [hv] at this
  simpa using this
theorem rU_no (a0 : Int) (h0 : 0 ≤ a0) (h01 : a0 < 18446744073709551616) (w : Nat) (h1 : 1 ≤ w) (h2 : w ≤ 64) (h : ¬ a0 < 2 ^ w) (l : List Int) : (rU (uB 9 a0 ++ l) 0 w).2.2 ≠ 0 := by
  have hG := uB_grp 9 a0 h0 (by omega)
  have hv := uB_val 9 a0 h0 (by omega)
  generalize uB 9 a0 = g at *
  unfold rU
  rw [if_pos (by simp; omega)]
  simp only [Int.toNat_natCast, show (0 : Int).toNat = 0 from rfl, List.drop_zero]
  by_cases hL : g.length ≤ (w + 6) / 7
  · rw [take7_grp hG _ l hL]
    simp only [if_true]
    rw [if_neg (by rw [hv]; exact h)]
    simp
  · rw [take7_long hG _ l (by omega)]
    simp
theorem rS_yes (a : Int) (w : Nat) (h1 : 1 ≤ w) (h2 : w ≤ 64) (h3 : -(2 : Int) ^ (w - 1) ≤ a) (h4 : a < 2 ^ (w - 1)) (l : List Int) : rS (sB 9 a ++ l) 0 w = (a, ((sB 9 a).length : Int), 0) := by
  have hp : (2 : Int) ^ (w - 1) ≤ 2 ^ 63 := by exact_mod_cast Nat.pow_le_pow_right (by omega) (by omega)
  have hG := sB_grp 9 a (by omega) (by omega)
  have hv := sB_val 9 a (by omega) (by omega)
  have hL := sB_length 9 a (by omega) (by omega) (by omega) (by omega)
  have hb : Lib.bitLen (mag a) ≤ w - 1 := bitLen_le _ (w - 1) (by
    have e : ((2 : Int) ^ (w - 1)) = ((2 ^ (w - 1) : Nat) : Int) := by simp
    rw [e] at h3 h4; unfold mag; split <;> omega)
  have := rS_at [] (sB 9 a) l hG w h1 h2 (by omega) (by rw [hv]; exact h3) (by rw [hv]; exact h4)
  rw [hv] at this
  simpa using this
theorem rS_no (a : Int) (h0 : -9223372036854775808 ≤ a) (h01 : a < 9223372036854775808) (w : Nat) (h1 : 1 ≤ w) (h2 : w ≤ 64) (h : ¬ (-(2 : Int) ^ (w - 1) ≤ a ∧ a < 2 ^ (w - 1))) (l : List Int) : (rS (sB 9 a ++ l) 0 w).2.2 ≠ 0 := by
  have hG := sB_grp 9 a (by omega) (by omega)
  have hv := sB_val 9 a (by omega) (by omega)
  generalize sB 9 a = g at *
  unfold rS
  rw [if_pos (by simp; omega)]
  simp only [Int.toNat_natCast, show (0 : Int).toNat = 0 from rfl, List.drop_zero]
  by_cases hL : g.length ≤ (w + 6) / 7
  · rw [take7_grp hG _ l hL]
    simp only [if_true]
    rw [if_neg (by rw [hv]; exact h)]
    simp
  · rw [take7_long hG _ l (by omega)]
    simp
theorem rU_less (g : List Int) (hG : Grp g) (hL : g.length ≤ 10) : (rU (g.take (g.length - 1)) 0 64).2.2 = 2 := by
  unfold rU
  rw [if_pos (by omega)]
  simp only [show (0 : Int).toNat = 0 from rfl, List.drop_zero, show ((64 : Int).toNat + 6) / 7 = 10 from rfl]
  rw [take7_less hG 10 hL]
  simp
theorem rS_less (g : List Int) (hG : Grp g) (hL : g.length ≤ 10) : (rS (g.take (g.length - 1)) 0 64).2.2 = 2 := by
  unfold rS
  rw [if_pos (by omega)]
  simp only [show (0 : Int).toNat = 0 from rfl, List.drop_zero, show ((64 : Int).toNat + 6) / 7 = 10 from rfl]
  rw [take7_less hG 10 hL]
  simp
theorem mx_len (g : List Int) (hG : Grp g) (hL : g.length ≤ 10) : mx 0 (wrap64 ((g.length : Int) - 1)) = ((g.length - 1 : Nat) : Int) := by
  have := hG.pos
  rw [wrap64_id _ (by omega) (by omega)]
  unfold mx
  split <;> omega
theorem j2_ok (k : Nat) (a0 a1 : Int) (h0 : 0 ≤ a0 ∧ a0 < 18446744073709551616) (h1 : -9223372036854775808 ≤ a1 ∧ a1 < 9223372036854775808) : avocetlaw01_LebBack.j2 (k + 11) a0 a1 true (uB 9 a0) (sB 9 a1) false = some true := by
  have hG := uB_grp 9 a0 h0.1 (by omega)
  have hL := uB_len 9 a0
  have hG2 := sB_grp 9 a1 (by omega) (by omega)
  have hL2 := sB_len 9 a1
  have hLU := LenU_f a0 h0.1 h0.2
  have hLS := LenS_f a1 h1.1 h1.2
  generalize uB 9 a0 = g at *
  generalize sB 9 a1 = h at *
  have hp := hG.pos
  have hp2 := hG2.pos
  simp only [avocetlaw01_LebBack.j2, Bool.false_eq_true, if_false]
  rw [mx_len g hG (by omega), mx_len h hG2 (by omega), if_pos (by omega), if_pos (by omega), Int.toNat_natCast, Int.toNat_natCast,
    ReadU_f _ (fun x hx => hG.bytes x (List.mem_of_mem_take hx)) _ _ (by simp; omega), Option.bind_some, if_pos (by omega), if_pos (by omega),
    ReadS_f _ (by omega) _ (fun x hx => hG2.bytes x (List.mem_of_mem_take hx)) _ _ (by simp; omega), Option.bind_some, rU_less g hG (by omega), rS_less h hG2 (by omega), hLU, hLS]
  simp
theorem LebBack : avocetlaw01_LebBack.Pure := by
  intro a0 a1 a2 l h0 h1 h2 _ hlen hl
  have h0 := wf_u64 h0
  have h1 := wf_i64 h1
  have hb : allB l := fun x hx => wf_u8 (hl x hx)
  refine ⟨30, ?_⟩
  unfold avocetlaw01_LebBack.f
  rw [awake_f 30 (by omega), Option.bind_some]
  by_cases hc : (l.length : Int) > 100
  · rw [if_pos hc]
  · rw [if_neg hc, U_f 30 [] a0 h0.1 h0.2 (by omega) (by simp), S_f 30 [] a1 h1.1 h1.2 (by omega) (by simp), and_63, wrap64_id (1 + a2 % 64) (by omega) (by omega)]
    have hG := uB_grp 9 a0 h0.1 (by omega)
    have hL := uB_len 9 a0
    have hG2 := sB_grp 9 a1 (by omega) (by omega)
    have hL2 := sB_len 9 a1
    simp only [Option.bind_some, List.nil_append, List.length_nil, Nat.zero_add]
    obtain ⟨w, hw⟩ : ∃ w : Nat, 1 + a2 % 64 = w := ⟨(1 + a2 % 64).toNat, by omega⟩
    have hw1 : 1 ≤ w ∧ w ≤ 64 := by omega
    rw [hw]
    have b1 : allB (uB 9 a0 ++ l) := fun x hx => (List.mem_append.1 hx).elim (hG.bytes x) (hb x)
    have b2 : allB (sB 9 a1 ++ l) := fun x hx => (List.mem_append.1 hx).elim (hG2.bytes x) (hb x)
    rw [if_pos (by omega), if_pos (by omega), ReadU_f _ b1 _ _ (by simp; omega), Option.bind_some, if_pos (by omega), if_pos (by omega), ReadS_f 30 (by omega) _ b2 _ _ (by simp; omega), Option.bind_some]
    have u1 := rU_yes a0 h0.1 w hw1.1 hw1.2
    have u2 := rU_no a0 h0.1 h0.2 w hw1.1 hw1.2
    have s1 := rS_yes a1 w hw1.1 hw1.2
    have s2 := rS_no a1 h1.1 h1.2 w hw1.1 hw1.2
    -- what is told of fitting
    have F : (if (w : Int) = 64 then avocetlaw01_LebBack.j0 30 a0 a1 true (w : Int) (uB 9 a0) (sB 9 a1) (rU (uB 9 a0 ++ l) 0 w).1 (rU (uB 9 a0 ++ l) 0 w).2.1 (rU (uB 9 a0 ++ l) 0 w).2.2 (rS (sB 9 a1 ++ l) 0 w).1 (rS (sB 9 a1 ++ l) 0 w).2.1 (rS (sB 9 a1 ++ l) 0 w).2.2 true
        else if 0 ≤ IntKind.u64.wrap (w : Int) then avocetlaw01_LebBack.j0 30 a0 a1 true (w : Int) (uB 9 a0) (sB 9 a1) (rU (uB 9 a0 ++ l) 0 w).1 (rU (uB 9 a0 ++ l) 0 w).2.1 (rU (uB 9 a0 ++ l) 0 w).2.2 (rS (sB 9 a1 ++ l) 0 w).1 (rS (sB 9 a1 ++ l) 0 w).2.1 (rS (sB 9 a1 ++ l) 0 w).2.2 (decide (a0 < shl .u64 1 (IntKind.u64.wrap (w : Int)))) else none)
        = avocetlaw01_LebBack.j0 30 a0 a1 true (w : Int) (uB 9 a0) (sB 9 a1) (rU (uB 9 a0 ++ l) 0 w).1 (rU (uB 9 a0 ++ l) 0 w).2.1 (rU (uB 9 a0 ++ l) 0 w).2.2 (rS (sB 9 a1 ++ l) 0 w).1 (rS (sB 9 a1 ++ l) 0 w).2.1 (rS (sB 9 a1 ++ l) 0 w).2.2 (decide (a0 < 2 ^ w)) := by
      by_cases h64 : (w : Int) = 64
      · rw [if_pos h64]
        obtain rfl : w = 64 := by omega
        rw [decide_eq_true (show a0 < 2 ^ 64 by omega)]
      · rw [if_neg h64, if_pos (by rw [wrap_u64]; omega), shl_u64 w (by omega)]
    rw [F]
    clear F
    have G : ∀ (x13 x14 x15 x16 x17 x18 : Int) (f : Bool), avocetlaw01_LebBack.j0 30 a0 a1 true (w : Int) (uB 9 a0) (sB 9 a1) x13 x14 x15 x16 x17 x18 f = avocetlaw01_LebBack.j1 29 a0 a1 true (uB 9 a0) (sB 9 a1) x13 x14 x15 x16 x17 x18 f (decide (-(2 : Int) ^ (w - 1) ≤ a1 ∧ a1 < 2 ^ (w - 1))) := by
      intro x13 x14 x15 x16 x17 x18 f
      simp only [avocetlaw01_LebBack.j0]
      by_cases h64 : (w : Int) = 64
      · rw [if_pos h64]
        obtain rfl : w = 64 := by omega
        rw [decide_eq_true (show -(2 : Int) ^ (64 - 1) ≤ a1 ∧ a1 < 2 ^ (64 - 1) by omega)]
      · have ew : wrap64 ((w : Int) - 1) = ((w - 1 : Nat) : Int) := by rw [wrap64_id _ (by omega) (by omega)]; omega
        rw [if_neg h64, ew, if_pos (by rw [wrap_u64]; omega), shl_i64 (w - 1) (by omega) (-1) (.inr rfl), shl_i64 (w - 1) (by omega) 1 (.inl rfl)]
        simp only [Int.one_mul, Int.neg_mul]
        by_cases hge : a1 ≥ -(2 : Int) ^ (w - 1)
        · rw [if_pos hge]
          by_cases hlt : a1 < 2 ^ (w - 1)
          · rw [decide_eq_true hlt, decide_eq_true ⟨hge, hlt⟩]
          · rw [decide_eq_false hlt, decide_eq_false (fun h => hlt h.2)]
        · rw [if_neg hge, decide_eq_false (fun h => hge h.1)]
    rw [G]
    clear G
    have J := j2_ok 17 a0 a1 h0 h1
    simp only [avocetlaw01_LebBack.j1]
    by_cases hf : a0 < 2 ^ w
    · rw [u1 hf l]
      by_cases hh : -(2 : Int) ^ (w - 1) ≤ a1 ∧ a1 < 2 ^ (w - 1)
      · rw [s1 hh.1 hh.2 l]
        simp [hf, hh, J]
      · have hs := s2 hh l
        simp [hf, hh, hs, J]
    · have hu := u2 hf l
      by_cases hh : -(2 : Int) ^ (w - 1) ≤ a1 ∧ a1 < 2 ^ (w - 1)
      · rw [s1 hh.1 hh.2 l]
        simp [hf, hh, hu, J]
      · have hs := s2 hh l
        simp [hf, hh, hu, hs, J]

end Go.Proofs.Ytiohdianmddfkaa.Pure
