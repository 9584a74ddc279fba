/- layer 04: there and back. -/
import Derived.Test.YthddcbfgdpfcjaaTyF
set_option linter.unusedVariables false
set_option linter.unusedSimpArgs false
namespace Go.Proofs.Ythddcbfgdpfcjaa.TyB
open Go.RowKit Go.Proofs.Ythddcbfgdpfcjaa.G Go.Proofs.YthddcbfgdpfcjaaW.PrintWords Go.Proofs.YthddcbfgdpfcjaaW.PrintLast Go.Proofs.Ythddcbfgdpfcjaa.LebM Go.Proofs.Ythddcbfgdpfcjaa.TyA Go.Proofs.Ythddcbfgdpfcjaa.TyR Go.Proofs.Ythddcbfgdpfcjaa.TyP Go.Proofs.Ythddcbfgdpfcjaa.TyF
theorem rd_mid (pre : List Int) (c : Int) (t : List Int) : rd (pre ++ c :: t) (pre.length : Int) = c := by
  rw [rd_at _ pre.length (by simp)]
  simp
theorem lw_run : ∀ (q pre rest : List Int) (n : Nat), q.all tySane_okT = true → lw (pre ++ (q ++ rest)) (q.length + n) pre.length = lw (pre ++ (q ++ rest)) n (pre.length + q.length)
  | [], pre, rest, n, _ => by simp
  | c :: q, pre, rest, n, h => by
    simp only [List.all_cons, Bool.and_eq_true] at h
    have ih := lw_run q (pre ++ [c]) rest n h.2
    simp only [List.append_assoc, List.cons_append, List.nil_append, List.length_append, List.length_cons, List.length_nil] at ih ⊢
    rw [show q.length + 1 + n = (q.length + n) + 1 by omega]
    simp only [lw]
    rw [if_pos (by simp <;> omega), rd_mid, if_pos h.1]
    rw [show pre.length + (q.length + 1) = pre.length + (0 + 1) + q.length by omega]
    exact ih
theorem rU_one (pre rest : List Int) (n : Int) (h0 : 0 ≤ n) (h1 : n < 128) : rU (pre ++ ([n] ++ rest)) pre.length 32 = (n, (pre.length : Int) + 1, 0) := by
  have hv : val [n] = n := by simp only [val]; omega
  have := rU_at pre [n] rest (.one n h0 h1) 32 (by omega) (by omega) (by simp) (by rw [hv]; omega)
  rw [hv] at this
  exact this
theorem lst_at (pre q rest : List Int) (m : Int) (hq : q.all tySane_okT = true) (hm : (q.length : Int) ≤ m) (h1 : q.length < 128) : lst (pre ++ ([(q.length : Int)] ++ (q ++ rest))) pre.length m = (q, (pre.length : Int) + 1 + q.length, 0) := by
  unfold lst
  rw [rU_one pre (q ++ rest) q.length (by omega) (by omega), if_pos rfl, if_neg (by omega)]
  have e1 : ((q.length : Int)).toNat = q.length := by omega
  have e2 : ((pre.length : Int) + 1).toNat = (pre ++ [(q.length : Int)]).length := by simp <;> omega
  have e3 : pre ++ ([(q.length : Int)] ++ (q ++ rest)) = (pre ++ [(q.length : Int)]) ++ (q ++ rest) := by simp
  have hr := lw_run q (pre ++ [(q.length : Int)]) rest 0 hq
  simp only [Nat.add_zero, lw] at hr
  rw [e1, e2, e3, hr, if_pos rfl]
  refine Prod.ext ?_ (Prod.ext ?_ rfl)
  · simp only
    rw [List.take_append, List.take_of_length_le (by omega), List.drop_append, List.drop_of_length_le (by omega)]
    simp
  · simp only [List.length_append, List.length_cons, List.length_nil]; omega
theorem lst_short (pre q : List Int) (m : Int) (hq : q.all tySane_okT = true) (hm : (q.length : Int) + 1 ≤ m) (h1 : q.length + 1 < 128) : (lst (pre ++ ([(q.length : Int) + 1] ++ q)) pre.length m).2.2 = 2 := by
  unfold lst
  rw [rU_one pre q ((q.length : Int) + 1) (by omega) (by omega), if_pos rfl, if_neg (by omega)]
  have e1 : ((q.length : Int) + 1).toNat = q.length + 1 := by omega
  have e2 : ((pre.length : Int) + 1).toNat = (pre ++ [(q.length : Int) + 1]).length := by simp <;> omega
  have e3 : pre ++ ([(q.length : Int) + 1] ++ q) = (pre ++ [(q.length : Int) + 1]) ++ (q ++ []) := by simp
  have hr := lw_run q (pre ++ [(q.length : Int) + 1]) [] 1 hq
  rw [e1, e2, e3, hr]
  have : lw (pre ++ [(q.length : Int) + 1] ++ (q ++ [])) 1 ((pre ++ [(q.length : Int) + 1]).length + q.length) = (2, (pre ++ [(q.length : Int) + 1]).length + q.length) := by
    simp only [lw]; rw [if_neg (by simp <;> omega)]
  rw [this, if_neg (by simp)]
theorem rU_end (l : List Int) : (rU l l.length 32).2.2 = 2 := by
  unfold rU
  rw [if_pos (by omega)]
  simp only [Int.toNat_natCast, List.drop_length]
  rw [if_neg (by decide)]
  rfl
theorem lst_end (l : List Int) (m : Int) : (lst l l.length m).2.2 = 2 := by
  unfold lst
  rw [rU_end, if_neg (by decide)]
theorem nx_mid (pre : List Int) (c : Int) (t : List Int) : nx (pre ++ c :: t) (pre.length : Int) = (c, 0) := by
  unfold nx
  rw [if_neg (by simp <;> omega), if_neg (by simp <;> omega), rd_mid]
theorem fn_pf (a p r : List Int) (hs : sane p r = true) : fn (pf a p r) a.length = (p, r, ((pf a p r).length : Int), 0) := by
  have hlen := sane_len hs
  unfold sane at hs
  simp only [Bool.and_eq_true, decide_eq_true_eq] at hs
  have e0 : pf a p r = a ++ 96 :: ([(p.length : Int)] ++ (p ++ ([(r.length : Int)] ++ r))) := by simp [pf]
  have e1 : pf a p r = (a ++ [96]) ++ ([(p.length : Int)] ++ (p ++ ([(r.length : Int)] ++ r))) := by simp [pf]
  have e2 : pf a p r = (a ++ [96] ++ [(p.length : Int)] ++ p) ++ ([(r.length : Int)] ++ (r ++ [])) := by simp [pf]
  have h0 : nx (pf a p r) a.length = (96, 0) := by rw [e0]; exact nx_mid _ _ _
  have h1 : lst (pf a p r) ((a.length : Int) + 1) 16 = (p, (a.length : Int) + 2 + p.length, 0) := by
    have := lst_at (a ++ [96]) p ([(r.length : Int)] ++ r) 16 hs.2.2.1 (by omega) (by omega)
    rw [← e1] at this
    rw [show (a.length : Int) + 1 = ((a ++ [96]).length : Int) by simp, this]
    simp <;> omega
  have h2 : lst (pf a p r) ((a.length : Int) + 2 + p.length) 1 = (r, ((pf a p r).length : Int), 0) := by
    have := lst_at (a ++ [96] ++ [(p.length : Int)] ++ p) r [] 1 hs.2.2.2 (by omega) (by omega)
    rw [← e2] at this
    rw [show (a.length : Int) + 2 + p.length = ((a ++ [96] ++ [(p.length : Int)] ++ p).length : Int) by simp <;> omega, this, pf_len]
    simp <;> omega
  unfold fn
  rw [h0, if_pos rfl, if_pos rfl, h1, if_pos rfl, h2, if_pos rfl]
theorem fn_short (a p r : List Int) (hs : sane p r = true) : (fn ((pf a p r).take ((pf a p r).length - 1)) a.length).2.2.2 = 2 := by
  have hlen := sane_len hs
  unfold sane at hs
  simp only [Bool.and_eq_true, decide_eq_true_eq] at hs
  have key : ∃ t, (pf a p r).take ((pf a p r).length - 1) = (a ++ [96] ++ [(p.length : Int)] ++ p) ++ t ∧ (lst ((a ++ [96] ++ [(p.length : Int)] ++ p) ++ t) ((a ++ [96] ++ [(p.length : Int)] ++ p).length : Int) 1).2.2 = 2 := by
    cases r with
    | nil =>
      refine ⟨[], ?_, by rw [List.append_nil]; exact lst_end _ 1⟩
      have : pf a p [] = (a ++ [96] ++ [(p.length : Int)] ++ p) ++ [0] := by simp [pf]
      rw [this, List.take_append_of_le_length (by simp), List.append_nil]
      exact List.take_of_length_le (by simp <;> omega)
    | cons c r =>
      obtain rfl : r = [] := by cases r with | nil => rfl | cons _ _ => simp at hlen
      have h := lst_short (a ++ [96] ++ [(p.length : Int)] ++ p) [] 1 rfl (by simp) (by simp)
      refine ⟨[1], ?_, h⟩
      have : pf a p [c] = (a ++ [96] ++ [(p.length : Int)] ++ p ++ [1]) ++ [c] := by simp [pf]
      rw [this, List.take_append_of_le_length (by simp)]
      exact List.take_of_length_le (by simp <;> omega)
  obtain ⟨t, et, ht⟩ := key
  rw [et]
  have e0 : (a ++ [96] ++ [(p.length : Int)] ++ p) ++ t = a ++ 96 :: ([(p.length : Int)] ++ (p ++ t)) := by simp
  have e1 : (a ++ [96] ++ [(p.length : Int)] ++ p) ++ t = (a ++ [96]) ++ ([(p.length : Int)] ++ (p ++ t)) := by simp
  have h0 : nx ((a ++ [96] ++ [(p.length : Int)] ++ p) ++ t) a.length = (96, 0) := by rw [e0]; exact nx_mid _ _ _
  have h1 : lst ((a ++ [96] ++ [(p.length : Int)] ++ p) ++ t) ((a.length : Int) + 1) 16 = (p, ((a ++ [96] ++ [(p.length : Int)] ++ p).length : Int), 0) := by
    have := lst_at (a ++ [96]) p t 16 hs.2.2.1 (by omega) (by omega)
    rw [← e1] at this
    rw [show (a.length : Int) + 1 = ((a ++ [96]).length : Int) by simp, this]
    simp <;> omega
  unfold fn
  rw [h0, if_pos rfl, if_pos rfl, h1, if_pos rfl]
  simp only
  rw [if_neg (by rw [ht]; decide)]
  exact ht
theorem uB32 (m : Int) (h0 : 0 ≤ m) (h1 : m ≤ 4294967295) : Grp (uB 9 m) ∧ val (uB 9 m) = m ∧ (uB 9 m).length ≤ 5 :=
  ⟨uB_grp 9 m h0 (by omega), uB_val 9 m h0 (by omega), uB_le 4 9 m h0 (by omega)⟩
theorem rU_u (pre rest : List Int) (m : Int) (h0 : 0 ≤ m) (h1 : m ≤ 4294967295) : rU (pre ++ (uB 9 m ++ rest)) pre.length 32 = (m, (pre.length : Int) + (uB 9 m).length, 0) := by
  obtain ⟨hG, hv, hL⟩ := uB32 m h0 h1
  have := rU_at pre (uB 9 m) rest hG 32 (by omega) (by omega) (by omega) (by rw [hv]; omega)
  rw [hv] at this
  exact this
theorem rU_less (pre : List Int) (m : Int) (h0 : 0 ≤ m) (h1 : m ≤ 4294967295) : (rU (pre ++ (uB 9 m).take ((uB 9 m).length - 1)) pre.length 32).2.2 = 2 := by
  obtain ⟨hG, hv, hL⟩ := uB32 m h0 h1
  unfold rU
  rw [if_pos (by simp <;> omega)]
  simp only [Int.toNat_natCast, List.drop_left]
  have := take7_less hG (((32 : Int).toNat + 6) / 7) (Nat.le_trans hL (by decide))
  rw [if_neg (by rw [this]; decide)]
  exact this
theorem lm_pl (a : List Int) (m x : Int) (h : Bool) (hp : (pl a m x h).2 = 0) : lm (pl a m x h).1 a.length = (m, x, h, ((pl a m x h).1.length : Int), 0) ∧ (lm ((pl a m x h).1.take ((pl a m x h).1.length - 1)) a.length).2.2.2.2 = 2 := by
  unfold pl at hp ⊢
  by_cases hv : 0 ≤ m ∧ m ≤ 4294967295 ∧ 0 ≤ x ∧ x ≤ 4294967295 ∧ (h = true ∨ x = 0)
  · rw [if_pos hv]
    obtain ⟨m0, m1, x0, x1, hx⟩ := hv
    have hpm := (uB32 m m0 m1).1.pos
    have hpx := (uB32 x x0 x1).1.pos
    by_cases ho : x = 0 ∧ h = false
    · obtain ⟨rfl, rfl⟩ := ho
      rw [if_pos ⟨rfl, rfl⟩]
      simp only
      constructor
      · have e0 : a ++ [0] ++ uB 9 m = a ++ 0 :: uB 9 m := by simp
        have e1 : a ++ [0] ++ uB 9 m = (a ++ [0]) ++ (uB 9 m ++ []) := by simp
        have n0 : nx (a ++ [0] ++ uB 9 m) a.length = (0, 0) := by rw [e0]; exact nx_mid _ _ _
        have r0 : rU (a ++ [0] ++ uB 9 m) ((a.length : Int) + 1) 32 = (m, ((a ++ [0] ++ uB 9 m).length : Int), 0) := by
          have := rU_u (a ++ [0]) [] m m0 m1
          rw [← e1] at this
          rw [show (a.length : Int) + 1 = ((a ++ [0]).length : Int) by simp, this]
          simp <;> omega
        unfold lm
        rw [n0, if_pos rfl, if_neg (by decide), r0, if_pos rfl, if_pos rfl]
      · have et : (a ++ [0] ++ uB 9 m).take ((a ++ [0] ++ uB 9 m).length - 1) = (a ++ [0]) ++ (uB 9 m).take ((uB 9 m).length - 1) := by
          rw [List.take_append, List.take_of_length_le (by simp <;> omega)]
          congr 2; simp <;> omega
        have n0 : nx ((a ++ [0]) ++ (uB 9 m).take ((uB 9 m).length - 1)) a.length = (0, 0) := by
          rw [show (a ++ [0]) ++ (uB 9 m).take ((uB 9 m).length - 1) = a ++ 0 :: (uB 9 m).take ((uB 9 m).length - 1) by simp]; exact nx_mid _ _ _
        have r0 := rU_less (a ++ [0]) m m0 m1
        have e9 : ((a ++ [0]).length : Int) = (a.length : Int) + 1 := by simp
        rw [e9] at r0
        rw [et]
        unfold lm
        rw [n0, if_pos rfl, if_neg (by decide), if_neg (by rw [r0]; decide)]
        exact r0
    · obtain rfl : h = true := by
        cases h with
        | true => rfl
        | false => exact absurd ⟨by simpa using hx, rfl⟩ ho
      rw [if_neg ho]
      simp only
      constructor
      · have e0 : a ++ [1] ++ uB 9 m ++ uB 9 x = a ++ 1 :: (uB 9 m ++ uB 9 x) := by simp
        have e1 : a ++ [1] ++ uB 9 m ++ uB 9 x = (a ++ [1]) ++ (uB 9 m ++ uB 9 x) := by simp
        have e2 : a ++ [1] ++ uB 9 m ++ uB 9 x = (a ++ [1] ++ uB 9 m) ++ (uB 9 x ++ []) := by simp
        have n0 : nx (a ++ [1] ++ uB 9 m ++ uB 9 x) a.length = (1, 0) := by rw [e0]; exact nx_mid _ _ _
        have r0 : rU (a ++ [1] ++ uB 9 m ++ uB 9 x) ((a.length : Int) + 1) 32 = (m, ((a ++ [1] ++ uB 9 m).length : Int), 0) := by
          have := rU_u (a ++ [1]) (uB 9 x) m m0 m1
          rw [← e1] at this
          rw [show (a.length : Int) + 1 = ((a ++ [1]).length : Int) by simp, this]
          simp <;> omega
        have r1 : rU (a ++ [1] ++ uB 9 m ++ uB 9 x) ((a ++ [1] ++ uB 9 m).length : Int) 32 = (x, ((a ++ [1] ++ uB 9 m ++ uB 9 x).length : Int), 0) := by
          have := rU_u (a ++ [1] ++ uB 9 m) [] x x0 x1
          rw [← e2] at this
          rw [this]
          simp <;> omega
        unfold lm
        rw [n0, if_pos rfl, if_neg (by decide), r0, if_pos rfl, if_neg (by decide)]
        simp only
        rw [r1, if_pos rfl]
      · have et : (a ++ [1] ++ uB 9 m ++ uB 9 x).take ((a ++ [1] ++ uB 9 m ++ uB 9 x).length - 1) = (a ++ [1] ++ uB 9 m) ++ (uB 9 x).take ((uB 9 x).length - 1) := by
          rw [List.take_append, List.take_of_length_le (by simp <;> omega)]
          congr 2; simp <;> omega
        have n0 : nx ((a ++ [1] ++ uB 9 m) ++ (uB 9 x).take ((uB 9 x).length - 1)) a.length = (1, 0) := by
          rw [show (a ++ [1] ++ uB 9 m) ++ (uB 9 x).take ((uB 9 x).length - 1) = a ++ 1 :: (uB 9 m ++ (uB 9 x).take ((uB 9 x).length - 1)) by simp]; exact nx_mid _ _ _
        have r0 : rU ((a ++ [1] ++ uB 9 m) ++ (uB 9 x).take ((uB 9 x).length - 1)) ((a.length : Int) + 1) 32 = (m, ((a ++ [1] ++ uB 9 m).length : Int), 0) := by
          have := rU_u (a ++ [1]) ((uB 9 x).take ((uB 9 x).length - 1)) m m0 m1
          rw [show (a ++ [1]) ++ (uB 9 m ++ (uB 9 x).take ((uB 9 x).length - 1)) = (a ++ [1] ++ uB 9 m) ++ (uB 9 x).take ((uB 9 x).length - 1) by simp] at this
          rw [show (a.length : Int) + 1 = ((a ++ [1]).length : Int) by simp, this]
          simp <;> omega
        have r1 := rU_less (a ++ [1] ++ uB 9 m) x x0 x1
        rw [et]
        unfold lm
        rw [n0, if_pos rfl, if_neg (by decide), r0, if_pos rfl, if_neg (by decide)]
        simp only
        rw [if_neg (by rw [r1]; decide)]
        exact r1
  · rw [if_neg hv] at hp; exact absurd hp (by decide)
theorem cutlen (n : Nat) (h : n < 1000000000000) (h1 : 1 ≤ n) : mx 0 (wrap64 ((n : Int) - 1)) = ((n - 1 : Nat) : Int) := by
  rw [wrap64_id _ (by omega) (by omega)]
  unfold mx
  split <;> omega
theorem pl_allB {a : List Int} (ha : allB a) (m x : Int) (h : Bool) : allB (pl a m x h).1 ∧ (pl a m x h).1.length ≤ a.length + 21 := by
  have hn : allB [] := fun x hx => by simp at hx
  unfold pl
  split
  · rename_i hv
    have l1 := uB_len 9 m
    have l2 := uB_len 9 x
    split
    · refine ⟨?_, by simp <;> omega⟩
      intro y hy
      simp only [List.mem_append, List.mem_cons, List.not_mem_nil, or_false] at hy
      rcases hy with (hy | hy) | hy
      · exact ha y hy
      · omega
      · exact (uB32 m hv.1 hv.2.1).1.bytes y hy
    · refine ⟨?_, by simp <;> omega⟩
      intro y hy
      simp only [List.mem_append, List.mem_cons, List.not_mem_nil, or_false] at hy
      rcases hy with ((hy | hy) | hy) | hy
      · exact ha y hy
      · omega
      · exact (uB32 m hv.1 hv.2.1).1.bytes y hy
      · exact (uB32 x hv.2.2.1 hv.2.2.2.1).1.bytes y hy
  · exact ⟨hn, by simp⟩
theorem allB_take {l : List Int} (h : allB l) (n : Nat) : allB (l.take n) := fun x hx => h x (List.mem_of_mem_take hx)
theorem pl_pos {a : List Int} {m x : Int} {h : Bool} (hp : (pl a m x h).2 = 0) : 1 ≤ (pl a m x h).1.length := by
  unfold pl at hp ⊢
  split
  · split <;> simp <;> omega
  · rename_i hv; rw [if_neg hv] at hp; exact absurd hp (by decide)
end Go.Proofs.Ythddcbfgdpfcjaa.TyB
