/- LebLong: a number laid with more bytes, that say nothing, is read as it was, as long as the width has them; then it is an error of form. -/
import Derived.Test.YtiohdianmddfkaaG2
import Derived.Test.YtiohdianmddfkaaLebR
set_option linter.unusedVariables false
namespace Go.Proofs.Ytiohdianmddfkaa.Pure
open Go.RowKit Go.Proofs.Ytiohdianmddfkaa.G Go.Proofs.YtiohdianmddfkaaW.PrintWords Go.Proofs.YtiohdianmddfkaaW.PrintLast Go.Proofs.YtiohdianmddfkaaW.PrintMore Go.Proofs.Ytiohdianmddfkaa.LebM Go.Proofs.Ytiohdianmddfkaa.LebU Go.Proofs.Ytiohdianmddfkaa.LebR

theorem ext_grp {g : List Int} (h : Grp g) : Grp (g.set (g.length - 1) (Go.bits .or .u8 (rd g ((g.length - 1 : Nat) : Int)) 128) ++ [0]) ∧ val (g.set (g.length - 1) (Go.bits .or .u8 (rd g ((g.length - 1 : Nat) : Int)) 128) ++ [0]) = val g := by
  induction h with
  | one c h0 h1 =>
    have e : rd [c] ((([c] : List Int).length - 1 : Nat) : Int) = c := rfl
    rw [e, or128 c h0 (by omega)]
    have e2 : ([c] : List Int).set (([c] : List Int).length - 1) (c % 128 + 128) ++ [0] = [c % 128 + 128, 0] := rfl
    rw [e2]
    refine ⟨.more _ _ (by omega) (by omega) (.one 0 (by omega) (by omega)), ?_⟩
    simp only [val]; omega
  | more c t h0 h1 ht ih =>
    have hp := ht.pos
    have e : rd (c :: t) (((c :: t).length - 1 : Nat) : Int) = rd t ((t.length - 1 : Nat) : Int) := by
      rw [rd_at _ _ (by simp), rd_at _ _ (by omega)]
      simp only [List.length_cons, Nat.add_sub_cancel]
      rw [List.getElem_cons, dif_neg (by omega)]
    rw [e]
    generalize Go.bits .or .u8 (rd t ((t.length - 1 : Nat) : Int)) 128 = b at ih ⊢
    have e2 : (c :: t).set ((c :: t).length - 1) b = c :: t.set (t.length - 1) b := by
      simp only [List.length_cons, Nat.add_sub_cancel]
      obtain ⟨n, hn⟩ : ∃ n, t.length = n + 1 := ⟨t.length - 1, by omega⟩
      rw [hn]; rfl
    rw [e2, List.cons_append]
    refine ⟨.more _ _ h0 h1 ih.1, ?_⟩
    simp only [val]; rw [ih.2]
theorem long_l0 (a0 : Int) (h0 : a0 < 18446744073709551616) : ∀ (d k : Nat) (g : List Int) (x7 x8 : Int), Grp g → val g = a0 → g.length + d ≤ 1000 → x7 ≤ 1000 → 0 ≤ x8 → x8 + d = x7 → d < k → avocetlaw01_LebLong.l0 k a0 true g x7 x8 = some true
  | 0, k, g, x7, x8, hG, hv, hl, h7, h8, hx, hk => by
    obtain ⟨k, rfl⟩ : ∃ m, k = m + 1 := ⟨k - 1, by omega⟩
    simp only [avocetlaw01_LebLong.l0]
    rw [if_neg (by omega), ReadU_f g hG.bytes 0 64 (by omega)]
    unfold rU
    rw [if_pos (by omega)]
    simp only [Option.bind_some, List.drop_zero, show (0 : Int).toNat = 0 from rfl, show ((64 : Int).toNat + 6) / 7 = 10 from rfl]
    by_cases h10 : g.length ≤ 10
    · have ht := take7_grp hG 10 [] h10
      rw [List.append_nil] at ht
      rw [ht, if_neg (by omega)]
      simp [hv, h0]
    · have ht := take7_long hG 10 [] (by omega)
      rw [List.append_nil] at ht
      rw [ht, if_pos (by omega)]
      simp
  | d + 1, k, g, x7, x8, hG, hv, hl, h7, h8, hx, hk => by
    obtain ⟨k, rfl⟩ : ∃ m, k = m + 1 := ⟨k - 1, by omega⟩
    have hp := hG.pos
    simp only [avocetlaw01_LebLong.l0]
    have ew : wrap64 ((g.length : Int) - 1) = ((g.length - 1 : Nat) : Int) := by rw [wrap64_id _ (by omega) (by omega)]; omega
    rw [if_pos (by omega), ew, if_pos (by omega), if_pos (by omega), Option.bind_some, Int.toNat_natCast, if_pos (by simp; omega), wrap64_id _ (by omega) (by omega)]
    have he := ext_grp hG
    exact long_l0 a0 h0 d k _ x7 (x8 + 1) he.1 (he.2.trans hv) (by simp; omega) h7 (by omega) (by omega) (by omega)
theorem LebLong : avocetlaw01_LebLong.Pure := by
  intro a0 a1 h0 h1
  have h0 := wf_u64 h0
  refine ⟨30, ?_⟩
  unfold avocetlaw01_LebLong.f
  rw [awake_f 30 (by omega), U_f 30 [] a0 h0.1 h0.2 (by omega) (by simp)]
  have hG := uB_grp 9 a0 h0.1 (by omega)
  have hv := uB_val 9 a0 h0.1 (by omega)
  have hl := uB_len 9 a0
  have hp := hG.pos
  simp only [Option.bind_some, List.nil_append]
  rw [if_neg (by omega), and_15]
  exact long_l0 a0 h0.2 (a1 % 16).toNat 30 _ _ 0 hG hv (by omega) (by omega) (by omega) (by omega) (by omega)

end Go.Proofs.Ytiohdianmddfkaa.Pure
