/- layer 04: the document's reading and laying come to the same. -/
import Derived.Test.YthddcbfgdpfcjaaTyF
import Derived.Test.YthddcbfgdpfcjaaTyD
import Derived.Test.YthddcbfgdpfcjaaG
set_option linter.unusedVariables false
set_option linter.unusedSimpArgs false
namespace Go.Proofs.Ythddcbfgdpfcjaa.TyS
open Go.RowKit Go.Proofs.Ythddcbfgdpfcjaa.G Go.Proofs.YthddcbfgdpfcjaaW.PrintWords Go.Proofs.YthddcbfgdpfcjaaW.PrintLast Go.Proofs.YthddcbfgdpfcjaaW.PrintMore Go.Proofs.Ythddcbfgdpfcjaa.LebM Go.Proofs.Ythddcbfgdpfcjaa.TyA Go.Proofs.Ythddcbfgdpfcjaa.TyR Go.Proofs.Ythddcbfgdpfcjaa.TyP Go.Proofs.Ythddcbfgdpfcjaa.TyF Go.Proofs.Ythddcbfgdpfcjaa.TyD
theorem one_f (k : Nat) (l : List Int) (i : Int) : avocetref04_one.f (k + 1) l i = some (nx l i) := by
  unfold avocetref04_one.f nx
  by_cases h : i < 0
  · rw [if_pos h, if_pos (.inl h)]
    simp [avocetref04_one.j0]
  · rw [if_neg h]
    by_cases h2 : i > (l.length : Int)
    · rw [if_pos (.inr h2), decide_eq_true h2]
      simp [avocetref04_one.j0]
    · rw [if_neg (by omega), decide_eq_false h2]
      simp only [avocetref04_one.j0]
      rw [if_neg (by simp)]
      by_cases h3 : i = (l.length : Int)
      · rw [if_pos h3, if_pos h3]
      · rw [if_neg h3, if_neg h3, if_pos (by omega), if_pos (by omega)]
def vl (l : List Int) (i : Int) : Int × Int × Int := if (nx l i).2 = 0 then (if tySane_okT (nx l i).1 = true then ((nx l i).1, i + 1, 0) else (0, 0, 3)) else (0, 0, (nx l i).2)
theorem vl_f (k : Nat) (l : List Int) (hb : Big l) (i : Int) : types_Val.f (k + 1) l i = some (vl l i) := by
  have hb : l.length < 1000000000000 := hb
  unfold types_Val.f vl
  rw [next_f, Option.bind_some]
  by_cases h : (nx l i).2 = 0
  · have hn := nx_ok h
    have h64 : wrap64 (i + 1) = i + 1 := wrap64_id _ (by omega) (by omega)
    rw [if_pos h, if_pos h, val_f, Option.bind_some, h64]
    by_cases hv : tySane_okT (nx l i).1 = true
    · rw [if_pos hv, if_pos hv]
    · rw [if_neg hv, if_neg hv]
  · rw [if_neg h, if_neg h]
theorem rvl_f (k : Nat) (l : List Int) (hb : Big l) (i : Int) : avocetref04_Val.f (k + 1) l i = some (vl l i) := by
  have hb : l.length < 1000000000000 := hb
  unfold avocetref04_Val.f vl
  rw [one_f, Option.bind_some]
  by_cases h : (nx l i).2 = 0
  · have hn := nx_ok h
    have h64 : wrap64 (i + 1) = i + 1 := wrap64_id _ (by omega) (by omega)
    rw [if_pos h, if_pos h, h64]
    by_cases h1 : (nx l i).1 = 126
    · rw [if_pos h1, if_pos (by unfold tySane_okT; simp [h1])]
    · rw [if_neg h1]
      by_cases h2 : (nx l i).1 = 127
      · rw [if_pos h2, if_pos (by unfold tySane_okT; simp [h2])]
      · rw [if_neg h2, if_neg (by unfold tySane_okT; simp [h1, h2])]
  · rw [if_neg h, if_neg h]
theorem vl_at (l : List Int) (x : Nat) (hx : x ≤ l.length) : vl l (x : Int) = (if x < l.length then (if tySane_okT (rd l (x : Int)) = true then (rd l (x : Int), (x : Int) + 1, 0) else (0, 0, 3)) else (0, 0, 2)) := by
  unfold vl
  by_cases h : x < l.length
  · have e : nx l (x : Int) = (rd l (x : Int), 0) := by unfold nx; rw [if_neg (by omega), if_neg (by omega)]
    rw [e, if_pos h, if_pos rfl]
  · have e : nx l (x : Int) = (0, 2) := by unfold nx; rw [if_neg (by omega), if_pos (by omega)]
    rw [e, if_neg h, if_neg (by decide)]
theorem lw_ge (l : List Int) : ∀ (n x : Nat), x ≤ (lw l n x).2
  | 0, x => Nat.le_refl _
  | n + 1, x => by
    simp only [lw]
    split
    · split
      · exact Nat.le_trans (Nat.le_succ x) (lw_ge l n (x + 1))
      · exact Nat.le_refl _
    · exact Nat.le_refl _
theorem vals_l0 (l : List Int) (hb : Big l) (cnt : Nat) (hc : cnt ≤ 100) : ∀ (n i x k : Nat) (out : List Int), i + n = cnt → n + 2 ≤ k → x ≤ l.length → out.length ≤ i →
    avocetref04_vals.l0 k l (x : Int) (cnt : Int) out (i : Int) = some (if (lw l n x).1 = 0 then (out ++ (l.take (lw l n x).2).drop x, ((lw l n x).2 : Int), 0) else ([], 0, (lw l n x).1))
  | 0, i, x, k, out, hi, hk, hx, ho => by
    obtain ⟨k, rfl⟩ : ∃ j, k = j + 1 := ⟨k - 1, by omega⟩
    simp only [avocetref04_vals.l0, lw]
    rw [if_neg (by omega)]
    simp
  | n + 1, i, x, k, out, hi, hk, hx, ho => by
    obtain ⟨k, rfl⟩ : ∃ j, k = j + 2 := ⟨k - 2, by omega⟩
    have hw : IntKind.u64.wrap ((i : Int) + 1) = ((i + 1 : Nat) : Int) := by rw [IntKind.wrap_u64]; omega
    simp only [avocetref04_vals.l0, lw]
    rw [if_pos (by omega), rvl_f k l hb, vl_at l x hx, Option.bind_some]
    by_cases h1 : x < l.length
    · by_cases h2 : tySane_okT (rd l (x : Int)) = true
      · simp only [if_pos h1, if_pos h2, if_true, hw]
        rw [if_pos (by omega)]
        have ih := vals_l0 l hb cnt hc n (i + 1) (x + 1) (k + 1) (out ++ [rd l (x : Int)]) (by omega) (by omega) (by omega) (by simp; omega)
        rw [show (x : Int) + 1 = ((x + 1 : Nat) : Int) by omega]
        refine Eq.trans (b := avocetref04_vals.l0 (k + 1) l ((x + 1 : Nat) : Int) (cnt : Int) (out ++ [rd l (x : Int)]) ((i + 1 : Nat) : Int)) rfl ?_
        rw [ih]
        by_cases h3 : (lw l n (x + 1)).1 = 0
        · have hg := lw_ge l n (x + 1)
          rw [if_pos h3, if_pos h3]
          congr 2
          rw [List.append_assoc]
          congr 1
          rw [drop_at (l.take (lw l n (x + 1)).2) x (by simp; omega)]
          have e1 : rd (l.take (lw l n (x + 1)).2) (x : Int) = rd l (x : Int) := by
            rw [rd_at _ x (by simp; omega), rd_at _ x h1, List.getElem_take]
          rw [e1]; rfl
        · rw [if_neg h3, if_neg h3]
      · simp only [if_pos h1, if_neg h2]
        simp
    · simp only [if_neg h1]
      simp
theorem rlist_f (k : Nat) (hk : 250 ≤ k) (l : List Int) (hl : allB l) (hb : Big l) (at_ most : Int) (h0 : 0 ≤ most) (h1 : most ≤ 16) : avocetref04_vals.f k l at_ most = some (lst l at_ most) := by
  have hb' : l.length < 1000000000000 := hb
  unfold avocetref04_vals.f lst
  rw [refReadU_f k (by omega) l hl (by omega) at_ 32, Option.bind_some]
  by_cases h2 : (rU l at_ 32).2.2 = 0
  · rw [if_pos h2, if_pos h2]
    by_cases h3 : (rU l at_ 32).1 > most
    · rw [if_pos h3, if_pos h3]
    · rw [if_neg h3, if_neg h3]
      have hr := rU_ok32 hl h2
      have := vals_l0 l hb (rU l at_ 32).1.toNat (by omega) (rU l at_ 32).1.toNat 0 (rU l at_ 32).2.1.toNat k [] (by omega) (by omega) (by omega) (by simp)
      rw [show (((rU l at_ 32).2.1.toNat : Nat) : Int) = (rU l at_ 32).2.1 by omega, show (((rU l at_ 32).1.toNat : Nat) : Int) = (rU l at_ 32).1 by omega] at this
      exact this
  · rw [if_neg h2, if_neg h2]
theorem rFunc_f (k : Nat) (hk : 250 ≤ k) (l : List Int) (hl : allB l) (hb : Big l) (at_ : Int) : avocetref04_Func.f k l at_ = some (fn l at_) := by
  have hb' : l.length < 1000000000000 := hb
  unfold avocetref04_Func.f fn
  obtain ⟨j, rfl⟩ : ∃ j, k = j + 1 := ⟨k - 1, by omega⟩
  rw [one_f, Option.bind_some]
  by_cases h1 : (nx l at_).2 = 0
  · have hn := nx_ok h1
    have h64 : wrap64 (at_ + 1) = at_ + 1 := wrap64_id _ (by omega) (by omega)
    rw [if_pos h1, if_pos h1]
    by_cases h2 : (nx l at_).1 = 96
    · rw [if_pos h2, if_pos h2, h64, rlist_f (j + 1) hk l hl hb _ 16 (by omega) (by omega), Option.bind_some]
      by_cases h3 : (lst l (at_ + 1) 16).2.2 = 0
      · rw [if_pos h3, if_pos h3, rlist_f (j + 1) hk l hl hb _ 1 (by omega) (by omega), Option.bind_some]
        split <;> rfl
      · rw [if_neg h3, if_neg h3]
    · rw [if_neg h2, if_neg h2]
  · rw [if_neg h1, if_neg h1]
theorem rLimits_f (k : Nat) (hk : 250 ≤ k) (l : List Int) (hl : allB l) (hb : Big l) (at_ : Int) : avocetref04_Limits.f k l at_ = some (lm l at_) := by
  have hb' : l.length < 1000000000000 := hb
  unfold avocetref04_Limits.f lm
  obtain ⟨j, rfl⟩ : ∃ j, k = j + 1 := ⟨k - 1, by omega⟩
  rw [one_f, Option.bind_some]
  by_cases h1 : (nx l at_).2 = 0
  · have hn := nx_ok h1
    have h64 : wrap64 (at_ + 1) = at_ + 1 := wrap64_id _ (by omega) (by omega)
    rw [if_pos h1, if_pos h1]
    by_cases h2 : (nx l at_).1 > 1
    · rw [if_pos h2, if_pos h2]
    · rw [if_neg h2, if_neg h2, h64, refReadU_f (j + 1) (by omega) l hl (by omega), Option.bind_some]
      by_cases h3 : (rU l (at_ + 1) 32).2.2 = 0
      · have hr := rU_ok32 hl h3
        have e1 : wrap64 (rU l (at_ + 1) 32).1 = (rU l (at_ + 1) 32).1 := wrap64_id _ (by omega) (by omega)
        rw [if_pos h3, if_pos h3]
        by_cases h4 : (nx l at_).1 = 0
        · rw [if_pos h4, if_pos h4, e1]
        · rw [if_neg h4, if_neg h4, refReadU_f (j + 1) (by omega) l hl (by omega), Option.bind_some]
          by_cases h5 : (rU l (rU l (at_ + 1) 32).2.1 32).2.2 = 0
          · have hr2 := rU_ok32 hl h5
            have e2 : wrap64 (rU l (rU l (at_ + 1) 32).2.1 32).1 = (rU l (rU l (at_ + 1) 32).2.1 32).1 := wrap64_id _ (by omega) (by omega)
            rw [if_pos h5, if_pos h5, e1, e2]
          · rw [if_neg h5, if_neg h5]
      · rw [if_neg h3, if_neg h3]
  · rw [if_neg h1, if_neg h1]
theorem rSame_f {p r p' r' : List Int} (hp : allB p) (hr : allB r) (hp' : allB p') (hr' : allB r') : avocetref04_Same.f p r p' r' = some (decide (p = p') && decide (r = r')) := by
  unfold avocetref04_Same.f
  by_cases h : p = p'
  · rw [if_pos ((str_eq hp hp').2 h), str_beq hr hr']; simp [h]
  · rw [if_neg (fun q => h ((str_eq hp hp').1 q))]; simp [h]
theorem all_l0 (l : List Int) (hb : Big l) : ∀ (n i k : Nat), i + n = l.length → n + 1 ≤ k → avocetref04_all.l0 k l (i : Int) = some ((l.drop i).all tySane_okT)
  | 0, i, k, hi, hk => by
    obtain ⟨k, rfl⟩ : ∃ j, k = j + 1 := ⟨k - 1, by omega⟩
    simp only [avocetref04_all.l0]
    rw [if_neg (by omega), List.drop_of_length_le (by omega)]; rfl
  | n + 1, i, k, hi, hk => by
    have hb' : l.length < 1000000000000 := hb
    obtain ⟨k, rfl⟩ : ∃ j, k = j + 1 := ⟨k - 1, by omega⟩
    have h64 : wrap64 ((i : Int) + 1) = ((i + 1 : Nat) : Int) := by rw [wrap64_id _ (by omega) (by omega)]; omega
    simp only [avocetref04_all.l0]
    rw [if_pos (by omega), if_pos (by omega), h64, all_l0 l hb n (i + 1) k (by omega) (by omega), drop_at l i (by omega), List.all_cons]
    by_cases h1 : rd l (i : Int) = 126
    · rw [if_pos h1, h1]; rfl
    · rw [if_neg h1]
      by_cases h2 : rd l (i : Int) = 127
      · rw [if_pos h2, h2]; rfl
      · rw [if_neg h2]
        have : tySane_okT (rd l (i : Int)) = false := by unfold tySane_okT; simp [h1, h2]
        rw [this]; rfl
theorem rSane_f (k : Nat) (hk : 200 ≤ k) (p r : List Int) : avocetref04_Sane.f k p r = some (sane p r) := by
  unfold avocetref04_Sane.f sane
  by_cases h1 : p.length ≤ 16
  · by_cases h2 : r.length ≤ 1
    · have q1 := all_l0 p (by show _ < 1000000000000; omega) p.length 0 k (by omega) (by omega)
      have q2 := all_l0 r (by show _ < 1000000000000; omega) r.length 0 k (by omega) (by omega)
      rw [if_pos (by omega), if_pos (by omega)]
      unfold avocetref04_all.f
      simp only [List.drop_zero] at q1 q2
      rw [show (0 : Int) = ((0 : Nat) : Int) from rfl, q1, q2, Option.bind_some, Option.bind_some, decide_eq_true h1, decide_eq_true h2]
      cases p.all tySane_okT <;> simp
    · rw [if_pos (by omega), if_neg (by omega), decide_eq_false h2]; simp
  · rw [if_neg (by omega), decide_eq_false h1]; simp
theorem rPutFunc_f (k : Nat) (hk : 250 ≤ k) (l p r : List Int) (hb : Big l) : avocetref04_PutFunc.f k l p r = some (if sane p r = true then (pf l p r, 0) else ([], 1)) := by
  have hb' : l.length < 1000000000000 := hb
  unfold avocetref04_PutFunc.f
  rw [rSane_f k (by omega), Option.bind_some]
  by_cases hs : sane p r = true
  · have hlen := sane_len hs
    have w1 : IntKind.u64.wrap (p.length : Int) = (p.length : Int) := by rw [IntKind.wrap_u64]; omega
    have w2 : IntKind.u64.wrap (r.length : Int) = (r.length : Int) := by rw [IntKind.wrap_u64]; omega
    have u1 : uB 9 (p.length : Int) = [(p.length : Int)] := by unfold uB; rw [if_neg (by omega)]
    have u2 : uB 9 (r.length : Int) = [(r.length : Int)] := by unfold uB; rw [if_neg (by omega)]
    rw [if_pos hs, if_pos hs, Option.bind_some, if_pos (by simp; omega), Option.bind_some, if_pos (by simp; omega), w1, w2, refUU_f k _ _ (by omega) (by omega) (by omega) (by simp; omega), Option.bind_some, if_pos (by rw [u1]; simp; omega), refUU_f k _ _ (by omega) (by omega) (by omega) (by rw [u1]; simp; omega), Option.bind_some, if_pos (by rw [u1, u2]; simp; omega), u1, u2]
    simp [pf]
  · rw [if_neg hs, if_neg hs]
theorem rPutLimits_f (k : Nat) (hk : 20 ≤ k) (l : List Int) (hb : Big l) (m x : Int) (h : Bool) : avocetref04_PutLimits.f k l m x h = some (pl l m x h) := by
  have hb' : l.length < 1000000000000 := hb
  obtain ⟨j, rfl⟩ : ∃ j, k = j + 1 := ⟨k - 1, by omega⟩
  have jt : avocetref04_PutLimits.j0 (j + 1) l true m x h = some ([], 1) := by simp [avocetref04_PutLimits.j0]
  have jf : 0 ≤ m → m ≤ 4294967295 → 0 ≤ x → x ≤ 4294967295 → (h = true ∨ x = 0) → avocetref04_PutLimits.j0 (j + 1) l false m x h = some (if x = 0 ∧ h = false then (l ++ [0] ++ uB 9 m, 0) else (l ++ [1] ++ uB 9 m ++ uB 9 x, 0)) := by
    intro q1 q2 q3 q4 q5
    have w1 : IntKind.u64.wrap m = m := by rw [IntKind.wrap_u64]; omega
    have w2 : IntKind.u64.wrap x = x := by rw [IntKind.wrap_u64]; omega
    have hl9 := uB_len 9 m
    simp only [avocetref04_PutLimits.j0]
    rw [if_neg (by simp), Option.bind_some, if_pos (by simp; omega), Option.bind_some]
    cases h with
    | true =>
      rw [if_pos rfl, if_pos (by simp; omega), w1, w2, refUU_f j _ m (by omega) (by omega) (by omega) (by simp; omega), Option.bind_some, refUU_f j _ x (by omega) (by omega) (by omega) (by simp; omega), Option.bind_some, if_neg (by simp)]
      simp
    | false =>
      have hx : x = 0 := by simpa using q5
      rw [if_neg (by simp), if_pos (by simp; omega), w1, refUU_f j _ m (by omega) (by omega) (by omega) (by simp; omega), Option.bind_some, if_pos ⟨hx, rfl⟩]
      simp
  unfold avocetref04_PutLimits.f pl
  by_cases h1 : m < 0
  · rw [if_pos h1, jt, if_neg (by omega)]
  · rw [if_neg h1]
    by_cases h2 : m > 4294967295
    · rw [if_pos h2, jt, if_neg (by omega)]
    · rw [if_neg h2]
      by_cases h3 : x < 0
      · rw [if_pos h3, jt, if_neg (by omega)]
      · rw [if_neg h3]
        by_cases h4 : x > 4294967295
        · rw [if_pos h4, jt, if_neg (by omega)]
        · rw [if_neg h4]
          cases h with
          | true =>
            rw [if_pos (show true = true from rfl), jf (by omega) (by omega) (by omega) (by omega) (.inl rfl)]
            rw [if_pos (show 0 ≤ m ∧ m ≤ 4294967295 ∧ 0 ≤ x ∧ x ≤ 4294967295 ∧ (true = true ∨ x = 0) from ⟨by omega, by omega, by omega, by omega, .inl rfl⟩)]
          | false =>
            rw [if_neg (show ¬ false = true by simp)]
            by_cases h5 : x = 0
            · rw [show (x != 0) = false by simp [h5], jf (by omega) (by omega) (by omega) (by omega) (.inr h5)]
              rw [if_pos (show 0 ≤ m ∧ m ≤ 4294967295 ∧ 0 ≤ x ∧ x ≤ 4294967295 ∧ (false = true ∨ x = 0) from ⟨by omega, by omega, by omega, by omega, .inr h5⟩)]
            · rw [show (x != 0) = true by simp [h5], jt, if_neg (by simp [h5])]
theorem lst_allB {l : List Int} (hl : allB l) (a m : Int) : allB (lst l a m).1 := by
  have hn : allB [] := fun x hx => by simp at hx
  unfold lst
  split
  · split
    · exact hn
    · split
      · exact fun x hx => hl x (List.mem_of_mem_take (List.mem_of_mem_drop hx))
      · exact hn
  · exact hn
theorem fn_allB {l : List Int} (hl : allB l) (a : Int) : allB (fn l a).1 ∧ allB (fn l a).2.1 := by
  have hn : allB [] := fun x hx => by simp at hx
  unfold fn
  split
  · split
    · split
      · split
        · exact ⟨lst_allB hl _ _, lst_allB hl _ _⟩
        · exact ⟨hn, hn⟩
      · exact ⟨hn, hn⟩
    · exact ⟨hn, hn⟩
  · exact ⟨hn, hn⟩
theorem Within_same (a0 a1 : Int) (a2 : Bool) (b0 b1 : Int) (b2 : Bool) : ∃ t, types_Within.f a0 a1 a2 b0 b1 b2 = some t ∧ avocetref04_Within.f a0 a1 a2 b0 b1 b2 = some t := by
  have e : avocetref04_Within.f a0 a1 a2 b0 b1 b2 = types_Within.f a0 a1 a2 b0 b1 b2 := rfl
  rw [e]
  unfold types_Within.f
  split
  · split
    · split
      · exact ⟨_, rfl, rfl⟩
      · exact ⟨_, rfl, rfl⟩
    · exact ⟨_, rfl, rfl⟩
  · exact ⟨_, rfl, rfl⟩
end Go.Proofs.Ythddcbfgdpfcjaa.TyS
