/- The law TableLays walked. -/
import Derived.Test.YtjdnkhgpnddncaaTabE
namespace Go.Proofs.Ytjdnkhgpnddncaa.G
open Go.RowKit Go.Proofs.YtjdnkhgpnddncaaW.PrintWords Go.Proofs.YtjdnkhgpnddncaaW.PrintLast Go.Proofs.YtjdnkhgpnddncaaW.PrintMore
attribute [local go_sem] max2_int min2_int max_two min_two max_three min_three max_four min_four   -- for this text's walks alone
set_option linter.unusedVariables false
set_option linter.unusedSimpArgs false
theorem all_any (l : List Int) : l.all (fun x => decide (-1 ≤ x)) = !l.any (fun x => decide (x < -1)) := by
  rw [Bool.eq_iff_iff]
  simp
/-- Is what is to be laid all right, so far? -/
def goodAt (a k : Nat) (l : List Int) (j : Nat) : Bool := decide (a ≤ k) && decide (l.length ≤ k - a) && (l.take j).all (fun x => decide (-1 ≤ x))
theorem goodAt_step {a k : Nat} {l : List Int} {j : Nat} (h : j < l.length) : goodAt a k l (j + 1) = (goodAt a k l j && decide (-1 ≤ l[j])) := by
  unfold goodAt
  rw [List.take_succ_eq_append_getElem h, List.all_append]
  simp [Bool.and_assoc]
theorem good_lay (a k : Nat) (l : List Int) : (tLay (List.replicate k (-1)) a l).isSome = goodAt a k l l.length := by
  unfold tLay goodAt
  rw [List.take_length, all_any, List.length_replicate]
  by_cases h : (0 : Int) ≤ (a : Int) ∧ (a : Int) ≤ (k : Int) ∧ (l.length : Int) ≤ (k : Int) - (a : Int) ∧ l.any (fun x => decide (x < -1)) = false
  · rw [if_pos h, h.2.2.2, decide_eq_true (show a ≤ k by omega), decide_eq_true (show l.length ≤ k - a by omega)]
    rfl
  · rw [if_neg h]
    symm
    show (_ : Bool) = false
    rw [Bool.eq_false_iff]
    intro hh
    simp only [Bool.and_eq_true, decide_eq_true_eq, Bool.not_eq_true'] at hh
    exact h ⟨by omega, by omega, by omega, hh.2⟩
theorem lay_get {a k : Nat} {l : List Int} {p : Nat} (hp : p < k) : ((tLay (List.replicate k (-1)) a l).getD (List.replicate k (-1)))[p]? = some (if goodAt a k l l.length = true ∧ a ≤ p ∧ p < a + l.length then l.getD (p - a) 0 else -1) := by
  have hg := good_lay a k l
  cases ht : tLay (List.replicate k (-1)) a l with
  | none =>
    rw [ht] at hg
    rw [if_neg (fun h => by rw [← hg] at h; exact absurd h.1 (by simp))]
    simp [List.getElem?_replicate, hp]
  | some l2 =>
    rw [ht] at hg
    unfold tLay at ht
    split at ht
    · rename_i hc
      obtain rfl := Option.some.inj ht
      rw [List.length_replicate] at hc
      have hfit : a + l.length ≤ (List.replicate k (-1 : Int)).length := by rw [List.length_replicate]; omega
      rw [Option.getD_some, Int.toNat_natCast]
      by_cases h : a ≤ p ∧ p < a + l.length
      · rw [if_pos ⟨by rw [← hg]; rfl, h⟩]
        obtain ⟨j, rfl⟩ : ∃ j, p = a + j := ⟨p - a, by omega⟩
        have hj : j < l.length := by omega
        rw [show a + j - a = j by omega, List.getD_eq_getElem?_getD, List.getElem?_eq_getElem hj]
        unfold splice
        have hl : ((List.replicate k (-1 : Int)).take a).length = a := by rw [List.length_take, List.length_replicate]; omega
        rw [List.append_assoc, List.getElem?_append_right (by omega), hl, Nat.add_sub_cancel_left, List.getElem?_append_left hj, List.getElem?_eq_getElem hj]
        rfl
      · rw [if_neg (fun hh => h hh.2)]
        unfold splice
        rcases Nat.lt_or_ge p a with h2 | h2
        · rw [List.append_assoc, List.getElem?_append_left (by rw [List.length_take, List.length_replicate]; omega), List.getElem?_take_of_lt h2, List.getElem?_replicate, if_pos hp]
        · rw [List.getElem?_append_right (by rw [List.length_append, List.length_take, List.length_replicate]; omega), List.getElem?_drop, List.getElem?_replicate, if_pos (by rw [List.length_append, List.length_take, List.length_replicate]; omega)]
    · cases ht
theorem lay_len {a k : Nat} {l : List Int} : ((tLay (List.replicate k (-1)) a l).getD (List.replicate k (-1))).length = k := by
  unfold tLay
  split
  · rename_i h
    rw [List.length_replicate] at h
    rw [Option.getD_some, splice_length (by rw [List.length_replicate, Int.toNat_natCast]; omega), List.length_replicate]
  · simp
theorem tAt_get {l : List Int} {p : Nat} {x : Int} (h : l[p]? = some x) : tAt l p = if x = -1 then (0, 6) else (x, 0) := by
  have hp := (List.getElem?_eq_some_iff.1 h).1
  unfold tAt
  rw [if_neg (by omega), Int.toNat_natCast, List.getD_eq_getElem?_getD, h]
  rfl
set_option maxRecDepth 100000 in
set_option maxHeartbeats 4000000 in
theorem laysT (n at_ i : Int) (l : List Int) (A : Option Addr) (c : Nat) (w : World) (hC : Kd.C (Kd.int .i64) w A l.length l) (hll : l.length ≤ 300) (k a p : Nat) (hk : bits .and .i64 n 31 = (k : Int)) (hk2 : k ≤ 31) (ha : bits .and .i64 at_ 63 = (a : Int)) (ha2 : a ≤ 63) (hp : bits .and .i64 i 63 = (p : Int)) (hp2 : p ≤ 63) (hc1 : a ≤ k) (hc2 : l.length + a ≤ k) :
    Calls Try.prog 3 #[.int .i64 n, .int .i64 at_, .slice A l.length c, .int .i64 i] w fun e w' => e = .returned (.bool true) ∧ Below w.heap.size w w' := by
  have d0 : decide ((300 : Int) < (l.length : Int)) = false := decide_eq_false (by omega)
  have d0' : decide (300 < l.length) = false := decide_eq_false (by omega)
  have HC := Aside0.mk hC
  obtain ⟨z, hz⟩ : ∃ z : List Int, z = List.replicate k (-1) := ⟨_, rfl⟩
  obtain ⟨r, hr⟩ : ∃ r, goodAt a k l l.length = r := ⟨_, rfl⟩
  obtain ⟨l2, hl2⟩ : ∃ l2, (tLay z a l).getD z = l2 := ⟨_, rfl⟩
  have hlen2 : l2.length = k := by rw [← hl2, hz]; exact lay_len
  have HGET := Aside0.mk (fun (h : p < k) => (by rw [← hl2, hz, ← hr]; exact lay_get h : l2[p]? = some (if r = true ∧ a ≤ p ∧ p < a + l.length then l.getD (p - a) 0 else -1)))
  have HR := Aside0.mk hr
  have HRS := Aside0.mk (show (tLay z a l).isSome = r by rw [hz, good_lay, hr])
  have HL2 := Aside0.mk hl2
  have HLEN := Aside0.mk hlen2
  have HTB := Aside0.mk (show tBad (k : Int) 0 false = 0 by unfold tBad; rw [if_neg (by simp), if_neg (by omega)])
  have HZ := Aside0.mk hz
  have HZL := Aside0.mk (show z.length ≤ 1000000 by rw [hz, List.length_replicate]; omega)
  have c1 : decide ((a : Int) ≤ (k : Int)) = true := decide_eq_true (by omega)
  have c1' : decide (a ≤ k) = true := decide_eq_true (by omega)
  have c2 : decide ((l.length : Int) ≤ (k : Int) - (a : Int)) = true := decide_eq_true (by omega)
  clear hC hz hr hl2 hlen2
  go_enter Try.func3, Try.ntmps3
  go_wp2_with (first
    | (go_at_call 8; (with_reducible refine (awake _).mono ?_); rintro e w1 ⟨rfl, hb⟩; have HB := Aside0.mk hb; clear hb)
    | (go_at_call 9; (with_reducible refine (newTabOk ((SB.start w).below HB.out) k 0 false HTB.out).mono ?_); rintro e w2 ⟨q, rfl, hs⟩; rw [← HZ.out] at hs; have HS := Aside0.mk hs; clear hs))
  go_loopw [14, 15] (fun v14 v15 wr => ∃ j : Nat, v14 = .bool (goodAt a k l j) ∧ v15 = .int .i64 j ∧ j ≤ l.length ∧ wr = w2) (fun _ v15 _ => l.length - (intOf v15).toNat)
  case atStart => exact ⟨0, by rw [show goodAt a k l 0 = true by unfold goodAt; rw [decide_eq_true (show a ≤ k by omega), decide_eq_true (show l.length ≤ k - a by omega)]; rfl], rfl, Nat.zero_le _, rfl⟩
  case round =>
    obtain ⟨j, rfl, rfl, hj, rfl⟩ := hrel
    by_cases hlt : j < l.length
    · have e1 : decide ((j : Int) < (l.length : Int)) = true := decide_eq_true (by omega)
      have e2 : decide (j < l.length) = true := decide_eq_true hlt
      obtain ⟨ad, rfl, hcell⟩ := row_cell (Kd.C_below HC.out HS.out.bel) hlt
      have HST := Aside0.mk (goodAt_step (a := a) (k := k) hlt)
      obtain ⟨x, hx⟩ : ∃ x, l[j] = x := ⟨_, rfl⟩
      rw [hx] at hcell
      have HX := Aside0.mk hx
      clear hx
      obtain ⟨g, hg⟩ : ∃ g, goodAt a k l j = g := ⟨_, rfl⟩
      have HG := Aside0.mk hg
      rw [hg]
      clear hg
      cases g with
      | false =>
        go_wp2
        exact ⟨⟨j + 1, by rw [HST.out, HG.out]; rfl, rfl, by omega, trivial⟩, by simp [intOf]; omega⟩
      | true =>
        by_cases cx : -1 ≤ x
        · have d5 : decide (-1 ≤ x) = true := decide_eq_true cx
          go_wp2
          exact ⟨⟨j + 1, by rw [HST.out, HG.out, HX.out, d5]; rfl, rfl, by omega, trivial⟩, by simp [intOf]; omega⟩
        · have d5 : decide (-1 ≤ x) = false := decide_eq_false cx
          go_wp2
          exact ⟨⟨j + 1, by rw [HST.out, HG.out, HX.out, d5]; rfl, rfl, by omega, trivial⟩, by simp [intOf]; omega⟩
    · have e1 : decide ((j : Int) < (l.length : Int)) = false := decide_eq_false (by omega)
      have e2 : decide (j < l.length) = false := decide_eq_false hlt
      obtain rfl : j = l.length := by omega
      rw [HR.out]
      have hwp : IntKind.u64.wrap (p : Int) = (p : Int) := by rw [wrap_u64_]; omega
      by_cases cp : p < k
      · have d6 : decide ((k : Int) ≤ (p : Int)) = false := decide_eq_false (by omega)
        have d6' : decide (k ≤ p) = false := decide_eq_false (by omega)
        have hgp := HGET.out cp
        by_cases cin : r = true ∧ a ≤ p ∧ p < a + l.length
        · rw [if_pos cin] at hgp
          obtain ⟨rfl, hin1, hin2⟩ := cin
          obtain ⟨j2, hj2⟩ : ∃ j2 : Nat, (p : Int) - (a : Int) = (j2 : Int) := ⟨p - a, by omega⟩
          have hj2l : j2 < l.length := by omega
          have hj2e : p - a = j2 := by omega
          rw [hj2e, List.getD_eq_getElem?_getD, List.getElem?_eq_getElem hj2l] at hgp
          obtain ⟨x, hx⟩ : ∃ x, l[j2] = x := ⟨_, rfl⟩
          have hgp : l2[p]? = some x := by rw [hgp, hx]; rfl
          have hx1 : -1 ≤ x := by
            have := HR.out
            unfold goodAt at this
            rw [List.take_length] at this
            simp only [Bool.and_eq_true, List.all_eq_true, decide_eq_true_eq] at this
            exact this.2 x (by rw [← hx]; exact List.getElem_mem _)
          have e3 : decide ((a : Int) ≤ (p : Int)) = true := decide_eq_true (by omega)
          have e3' : decide (a ≤ p) = true := decide_eq_true hin1
          have e4 : decide ((p : Int) < (a : Int) + (l.length : Int)) = true := decide_eq_true (by omega)
          have e4' : decide (p < a + l.length) = true := decide_eq_true hin2
          have HX := Aside0.mk hx
          have hta := tAt_get hgp
          by_cases cx : x = -1
          · rw [if_pos cx] at hta
            subst cx
            have HTA := Aside0.mk hta
            clear hta
            go_wp2_with (first
              | (go_at_call 10; (with_reducible refine (tabLayG (p := q) HS.out a l A c (by unfold okI; omega) (Kd.C_below HC.out HS.out.bel) HZL.out HRS.out HL2.out).mono ?_); rintro e w3 ⟨rfl, hs⟩; have HS3 := Aside0.mk hs; clear hs)
              | (go_at_call 11; (with_reducible refine (tabAllH (p := q) HS3.out (by show l2.length ≤ _; rw [HLEN.out]; omega) rfl).mono ?_); rintro e w4 ⟨v, rfl, hs⟩; have HS4 := Aside0.mk hs; clear hs; obtain ⟨Av, cv, hv, _, _⟩ := HS4.out.reads; change v = .slice Av l2.length cv at hv; rw [HLEN.out] at hv; subst hv)
              | (go_at_call 12; (with_reducible refine (tabAtH (p := q) HS4.out p (by omega) HTA.out).mono ?_); rintro e w5 ⟨rfl, hs⟩; have HS5 := Aside0.mk hs; clear hs; obtain ⟨Av5, cv5, he5, _, hC5⟩ := HS5.out.reads; injection he5 with ea _ _; subst ea; obtain ⟨adv, hAv, hcv⟩ := row_cell hC5 (i := p) (by rw [HLEN.out]; exact cp); subst hAv; rw [(List.getElem?_eq_some_iff.1 hgp).2] at hcv; clear hC5; obtain ⟨adl, hAl, hcl⟩ := row_cell (Kd.C_below HC.out HS5.out.bel) hj2l; subst hAl; rw [HX.out] at hcl))
            all_goals (go_ret; exact ⟨rfl, HS5.out.bel⟩)
          · rw [if_neg cx] at hta
            have d7 : (x == -1) = false := beq_eq_false_iff_ne.2 cx
            have d8 : decide (0 ≤ x) = true := decide_eq_true (by omega)
            have d9 : (x == x) = true := beq_self_eq_true _
            clear cx
            have HTA := Aside0.mk hta
            clear hta
            go_wp2_with (first
              | (go_at_call 10; (with_reducible refine (tabLayG (p := q) HS.out a l A c (by unfold okI; omega) (Kd.C_below HC.out HS.out.bel) HZL.out HRS.out HL2.out).mono ?_); rintro e w3 ⟨rfl, hs⟩; have HS3 := Aside0.mk hs; clear hs)
              | (go_at_call 11; (with_reducible refine (tabAllH (p := q) HS3.out (by show l2.length ≤ _; rw [HLEN.out]; omega) rfl).mono ?_); rintro e w4 ⟨v, rfl, hs⟩; have HS4 := Aside0.mk hs; clear hs; obtain ⟨Av, cv, hv, _, _⟩ := HS4.out.reads; change v = .slice Av l2.length cv at hv; rw [HLEN.out] at hv; subst hv)
              | (go_at_call 12; (with_reducible refine (tabAtH (p := q) HS4.out p (by omega) HTA.out).mono ?_); rintro e w5 ⟨rfl, hs⟩; have HS5 := Aside0.mk hs; clear hs; obtain ⟨Av5, cv5, he5, _, hC5⟩ := HS5.out.reads; injection he5 with ea _ _; subst ea; obtain ⟨adv, hAv, hcv⟩ := row_cell hC5 (i := p) (by rw [HLEN.out]; exact cp); subst hAv; rw [(List.getElem?_eq_some_iff.1 hgp).2] at hcv; clear hC5; obtain ⟨adl, hAl, hcl⟩ := row_cell (Kd.C_below HC.out HS5.out.bel) hj2l; subst hAl; rw [HX.out] at hcl))
            all_goals (go_ret; exact ⟨rfl, HS5.out.bel⟩)
        · rw [if_neg cin] at hgp
          have hta := tAt_get hgp
          rw [if_pos rfl] at hta
          cases r with
          | false =>
            clear cin
            have HTA := Aside0.mk hta
            clear hta
            go_wp2_with (first
              | (go_at_call 10; (with_reducible refine (tabLayG (p := q) HS.out a l A c (by unfold okI; omega) (Kd.C_below HC.out HS.out.bel) HZL.out HRS.out HL2.out).mono ?_); rintro e w3 ⟨rfl, hs⟩; have HS3 := Aside0.mk hs; clear hs)
              | (go_at_call 11; (with_reducible refine (tabAllH (p := q) HS3.out (by show l2.length ≤ _; rw [HLEN.out]; omega) rfl).mono ?_); rintro e w4 ⟨v, rfl, hs⟩; have HS4 := Aside0.mk hs; clear hs; obtain ⟨Av, cv, hv, _, _⟩ := HS4.out.reads; change v = .slice Av l2.length cv at hv; rw [HLEN.out] at hv; subst hv)
              | (go_at_call 12; (with_reducible refine (tabAtH (p := q) HS4.out p (by omega) HTA.out).mono ?_); rintro e w5 ⟨rfl, hs⟩; have HS5 := Aside0.mk hs; clear hs; obtain ⟨Av5, cv5, he5, _, hC5⟩ := HS5.out.reads; injection he5 with ea _ _; subst ea; obtain ⟨adv, hAv, hcv⟩ := row_cell hC5 (i := p) (by rw [HLEN.out]; exact cp); subst hAv; rw [(List.getElem?_eq_some_iff.1 hgp).2] at hcv; clear hC5))
            all_goals (go_ret; exact ⟨rfl, HS5.out.bel⟩)
          | true =>
            by_cases c3 : a ≤ p
            · have e3 : decide ((a : Int) ≤ (p : Int)) = true := decide_eq_true (by omega)
              have e3' : decide (a ≤ p) = true := decide_eq_true c3
              have e4 : decide ((p : Int) < (a : Int) + (l.length : Int)) = false := decide_eq_false (fun h => cin ⟨rfl, c3, by omega⟩)
              have e4' : decide (p < a + l.length) = false := decide_eq_false (fun h => cin ⟨rfl, c3, h⟩)
              clear cin
              have HTA := Aside0.mk hta
              clear hta
              go_wp2_with (first
                | (go_at_call 10; (with_reducible refine (tabLayG (p := q) HS.out a l A c (by unfold okI; omega) (Kd.C_below HC.out HS.out.bel) HZL.out HRS.out HL2.out).mono ?_); rintro e w3 ⟨rfl, hs⟩; have HS3 := Aside0.mk hs; clear hs)
                | (go_at_call 11; (with_reducible refine (tabAllH (p := q) HS3.out (by show l2.length ≤ _; rw [HLEN.out]; omega) rfl).mono ?_); rintro e w4 ⟨v, rfl, hs⟩; have HS4 := Aside0.mk hs; clear hs; obtain ⟨Av, cv, hv, _, _⟩ := HS4.out.reads; change v = .slice Av l2.length cv at hv; rw [HLEN.out] at hv; subst hv)
                | (go_at_call 12; (with_reducible refine (tabAtH (p := q) HS4.out p (by omega) HTA.out).mono ?_); rintro e w5 ⟨rfl, hs⟩; have HS5 := Aside0.mk hs; clear hs; obtain ⟨Av5, cv5, he5, _, hC5⟩ := HS5.out.reads; injection he5 with ea _ _; subst ea; obtain ⟨adv, hAv, hcv⟩ := row_cell hC5 (i := p) (by rw [HLEN.out]; exact cp); subst hAv; rw [(List.getElem?_eq_some_iff.1 hgp).2] at hcv; clear hC5))
              all_goals (go_ret; exact ⟨rfl, HS5.out.bel⟩)
            · have e3 : decide ((a : Int) ≤ (p : Int)) = false := decide_eq_false (by omega)
              have e3' : decide (a ≤ p) = false := decide_eq_false c3
              clear cin
              have HTA := Aside0.mk hta
              clear hta
              go_wp2_with (first
                | (go_at_call 10; (with_reducible refine (tabLayG (p := q) HS.out a l A c (by unfold okI; omega) (Kd.C_below HC.out HS.out.bel) HZL.out HRS.out HL2.out).mono ?_); rintro e w3 ⟨rfl, hs⟩; have HS3 := Aside0.mk hs; clear hs)
                | (go_at_call 11; (with_reducible refine (tabAllH (p := q) HS3.out (by show l2.length ≤ _; rw [HLEN.out]; omega) rfl).mono ?_); rintro e w4 ⟨v, rfl, hs⟩; have HS4 := Aside0.mk hs; clear hs; obtain ⟨Av, cv, hv, _, _⟩ := HS4.out.reads; change v = .slice Av l2.length cv at hv; rw [HLEN.out] at hv; subst hv)
                | (go_at_call 12; (with_reducible refine (tabAtH (p := q) HS4.out p (by omega) HTA.out).mono ?_); rintro e w5 ⟨rfl, hs⟩; have HS5 := Aside0.mk hs; clear hs; obtain ⟨Av5, cv5, he5, _, hC5⟩ := HS5.out.reads; injection he5 with ea _ _; subst ea; obtain ⟨adv, hAv, hcv⟩ := row_cell hC5 (i := p) (by rw [HLEN.out]; exact cp); subst hAv; rw [(List.getElem?_eq_some_iff.1 hgp).2] at hcv; clear hC5))
              all_goals (go_ret; exact ⟨rfl, HS5.out.bel⟩)
      · have d6 : decide ((k : Int) ≤ (p : Int)) = true := decide_eq_true (by omega)
        have d6' : decide (k ≤ p) = true := decide_eq_true (by omega)
        have hta : tAt l2 (p : Int) = (0, 5) := by unfold tAt; rw [if_pos (by rw [HLEN.out]; omega)]
        have HTA := Aside0.mk hta
        clear hta
        go_wp2_with (first
          | (go_at_call 10; (with_reducible refine (tabLayG (p := q) HS.out a l A c (by unfold okI; omega) (Kd.C_below HC.out HS.out.bel) HZL.out HRS.out HL2.out).mono ?_); rintro e w3 ⟨rfl, hs⟩; have HS3 := Aside0.mk hs; clear hs)
          | (go_at_call 11; (with_reducible refine (tabAllH (p := q) HS3.out (by show l2.length ≤ _; rw [HLEN.out]; omega) rfl).mono ?_); rintro e w4 ⟨v, rfl, hs⟩; have HS4 := Aside0.mk hs; clear hs; obtain ⟨Av, cv, hv, _, _⟩ := HS4.out.reads; change v = .slice Av l2.length cv at hv; rw [HLEN.out] at hv; subst hv)
          | (go_at_call 12; (with_reducible refine (tabAtH (p := q) HS4.out p (by omega) HTA.out).mono ?_); rintro e w5 ⟨rfl, hs⟩; have HS5 := Aside0.mk hs; clear hs))
        all_goals (go_ret; exact ⟨rfl, HS5.out.bel⟩)
set_option maxRecDepth 100000 in
set_option maxHeartbeats 4000000 in
theorem laysA (n at_ i : Int) (l : List Int) (A : Option Addr) (c : Nat) (w : World) (hC : Kd.C (Kd.int .i64) w A l.length l) (hll : l.length ≤ 300) (k a p : Nat) (hk : bits .and .i64 n 31 = (k : Int)) (hk2 : k ≤ 31) (ha : bits .and .i64 at_ 63 = (a : Int)) (ha2 : a ≤ 63) (hp : bits .and .i64 i 63 = (p : Int)) (hp2 : p ≤ 63) (hc1 : ¬ a ≤ k) :
    Calls Try.prog 3 #[.int .i64 n, .int .i64 at_, .slice A l.length c, .int .i64 i] w fun e w' => e = .returned (.bool true) ∧ Below w.heap.size w w' := by
  have d0 : decide ((300 : Int) < (l.length : Int)) = false := decide_eq_false (by omega)
  have d0' : decide (300 < l.length) = false := decide_eq_false (by omega)
  have HC := Aside0.mk hC
  obtain ⟨z, hz⟩ : ∃ z : List Int, z = List.replicate k (-1) := ⟨_, rfl⟩
  obtain ⟨r, hr⟩ : ∃ r, goodAt a k l l.length = r := ⟨_, rfl⟩
  obtain ⟨l2, hl2⟩ : ∃ l2, (tLay z a l).getD z = l2 := ⟨_, rfl⟩
  have hlen2 : l2.length = k := by rw [← hl2, hz]; exact lay_len
  have HGET := Aside0.mk (fun (h : p < k) => (by rw [← hl2, hz, ← hr]; exact lay_get h : l2[p]? = some (if r = true ∧ a ≤ p ∧ p < a + l.length then l.getD (p - a) 0 else -1)))
  have HR := Aside0.mk hr
  have HRS := Aside0.mk (show (tLay z a l).isSome = r by rw [hz, good_lay, hr])
  have HL2 := Aside0.mk hl2
  have HLEN := Aside0.mk hlen2
  have HTB := Aside0.mk (show tBad (k : Int) 0 false = 0 by unfold tBad; rw [if_neg (by simp), if_neg (by omega)])
  have HZ := Aside0.mk hz
  have HZL := Aside0.mk (show z.length ≤ 1000000 by rw [hz, List.length_replicate]; omega)
  have c1 : decide ((a : Int) ≤ (k : Int)) = false := decide_eq_false (by omega)
  have c1' : decide (a ≤ k) = false := decide_eq_false (by omega)
  clear hC hz hr hl2 hlen2
  go_enter Try.func3, Try.ntmps3
  go_wp2_with (first
    | (go_at_call 8; (with_reducible refine (awake _).mono ?_); rintro e w1 ⟨rfl, hb⟩; have HB := Aside0.mk hb; clear hb)
    | (go_at_call 9; (with_reducible refine (newTabOk ((SB.start w).below HB.out) k 0 false HTB.out).mono ?_); rintro e w2 ⟨q, rfl, hs⟩; rw [← HZ.out] at hs; have HS := Aside0.mk hs; clear hs))
  go_loopw [14, 15] (fun v14 v15 wr => ∃ j : Nat, v14 = .bool (goodAt a k l j) ∧ v15 = .int .i64 j ∧ j ≤ l.length ∧ wr = w2) (fun _ v15 _ => l.length - (intOf v15).toNat)
  case atStart => exact ⟨0, by rw [show goodAt a k l 0 = false by unfold goodAt; rw [decide_eq_false (show ¬ a ≤ k by omega)]; rfl], rfl, Nat.zero_le _, rfl⟩
  case round =>
    obtain ⟨j, rfl, rfl, hj, rfl⟩ := hrel
    by_cases hlt : j < l.length
    · have e1 : decide ((j : Int) < (l.length : Int)) = true := decide_eq_true (by omega)
      have e2 : decide (j < l.length) = true := decide_eq_true hlt
      obtain ⟨ad, rfl, hcell⟩ := row_cell (Kd.C_below HC.out HS.out.bel) hlt
      have HST := Aside0.mk (goodAt_step (a := a) (k := k) hlt)
      obtain ⟨x, hx⟩ : ∃ x, l[j] = x := ⟨_, rfl⟩
      rw [hx] at hcell
      have HX := Aside0.mk hx
      clear hx
      obtain ⟨g, hg⟩ : ∃ g, goodAt a k l j = g := ⟨_, rfl⟩
      have HG := Aside0.mk hg
      rw [hg]
      clear hg
      cases g with
      | false =>
        go_wp2
        exact ⟨⟨j + 1, by rw [HST.out, HG.out]; rfl, rfl, by omega, trivial⟩, by simp [intOf]; omega⟩
      | true =>
        by_cases cx : -1 ≤ x
        · have d5 : decide (-1 ≤ x) = true := decide_eq_true cx
          go_wp2
          exact ⟨⟨j + 1, by rw [HST.out, HG.out, HX.out, d5]; rfl, rfl, by omega, trivial⟩, by simp [intOf]; omega⟩
        · have d5 : decide (-1 ≤ x) = false := decide_eq_false cx
          go_wp2
          exact ⟨⟨j + 1, by rw [HST.out, HG.out, HX.out, d5]; rfl, rfl, by omega, trivial⟩, by simp [intOf]; omega⟩
    · have e1 : decide ((j : Int) < (l.length : Int)) = false := decide_eq_false (by omega)
      have e2 : decide (j < l.length) = false := decide_eq_false hlt
      obtain rfl : j = l.length := by omega
      rw [HR.out]
      have hwp : IntKind.u64.wrap (p : Int) = (p : Int) := by rw [wrap_u64_]; omega
      by_cases cp : p < k
      · have d6 : decide ((k : Int) ≤ (p : Int)) = false := decide_eq_false (by omega)
        have d6' : decide (k ≤ p) = false := decide_eq_false (by omega)
        have hgp := HGET.out cp
        by_cases cin : r = true ∧ a ≤ p ∧ p < a + l.length
        · rw [if_pos cin] at hgp
          obtain ⟨rfl, hin1, hin2⟩ := cin
          obtain ⟨j2, hj2⟩ : ∃ j2 : Nat, (p : Int) - (a : Int) = (j2 : Int) := ⟨p - a, by omega⟩
          have hj2l : j2 < l.length := by omega
          have hj2e : p - a = j2 := by omega
          rw [hj2e, List.getD_eq_getElem?_getD, List.getElem?_eq_getElem hj2l] at hgp
          obtain ⟨x, hx⟩ : ∃ x, l[j2] = x := ⟨_, rfl⟩
          have hgp : l2[p]? = some x := by rw [hgp, hx]; rfl
          have hx1 : -1 ≤ x := by
            have := HR.out
            unfold goodAt at this
            rw [List.take_length] at this
            simp only [Bool.and_eq_true, List.all_eq_true, decide_eq_true_eq] at this
            exact this.2 x (by rw [← hx]; exact List.getElem_mem _)
          have e3 : decide ((a : Int) ≤ (p : Int)) = true := decide_eq_true (by omega)
          have e3' : decide (a ≤ p) = true := decide_eq_true hin1
          have e4 : decide ((p : Int) < (a : Int) + (l.length : Int)) = true := decide_eq_true (by omega)
          have e4' : decide (p < a + l.length) = true := decide_eq_true hin2
          have HX := Aside0.mk hx
          have hta := tAt_get hgp
          by_cases cx : x = -1
          · rw [if_pos cx] at hta
            subst cx
            have HTA := Aside0.mk hta
            clear hta
            go_wp2_with (first
              | (go_at_call 10; (with_reducible refine (tabLayG (p := q) HS.out a l A c (by unfold okI; omega) (Kd.C_below HC.out HS.out.bel) HZL.out HRS.out HL2.out).mono ?_); rintro e w3 ⟨rfl, hs⟩; have HS3 := Aside0.mk hs; clear hs)
              | (go_at_call 11; (with_reducible refine (tabAllH (p := q) HS3.out (by show l2.length ≤ _; rw [HLEN.out]; omega) rfl).mono ?_); rintro e w4 ⟨v, rfl, hs⟩; have HS4 := Aside0.mk hs; clear hs; obtain ⟨Av, cv, hv, _, _⟩ := HS4.out.reads; change v = .slice Av l2.length cv at hv; rw [HLEN.out] at hv; subst hv)
              | (go_at_call 12; (with_reducible refine (tabAtH (p := q) HS4.out p (by omega) HTA.out).mono ?_); rintro e w5 ⟨rfl, hs⟩; have HS5 := Aside0.mk hs; clear hs; obtain ⟨Av5, cv5, he5, _, hC5⟩ := HS5.out.reads; injection he5 with ea _ _; subst ea; obtain ⟨adv, hAv, hcv⟩ := row_cell hC5 (i := p) (by rw [HLEN.out]; exact cp); subst hAv; rw [(List.getElem?_eq_some_iff.1 hgp).2] at hcv; clear hC5; obtain ⟨adl, hAl, hcl⟩ := row_cell (Kd.C_below HC.out HS5.out.bel) hj2l; subst hAl; rw [HX.out] at hcl))
            all_goals (go_ret; exact ⟨rfl, HS5.out.bel⟩)
          · rw [if_neg cx] at hta
            have d7 : (x == -1) = false := beq_eq_false_iff_ne.2 cx
            have d8 : decide (0 ≤ x) = true := decide_eq_true (by omega)
            have d9 : (x == x) = true := beq_self_eq_true _
            clear cx
            have HTA := Aside0.mk hta
            clear hta
            go_wp2_with (first
              | (go_at_call 10; (with_reducible refine (tabLayG (p := q) HS.out a l A c (by unfold okI; omega) (Kd.C_below HC.out HS.out.bel) HZL.out HRS.out HL2.out).mono ?_); rintro e w3 ⟨rfl, hs⟩; have HS3 := Aside0.mk hs; clear hs)
              | (go_at_call 11; (with_reducible refine (tabAllH (p := q) HS3.out (by show l2.length ≤ _; rw [HLEN.out]; omega) rfl).mono ?_); rintro e w4 ⟨v, rfl, hs⟩; have HS4 := Aside0.mk hs; clear hs; obtain ⟨Av, cv, hv, _, _⟩ := HS4.out.reads; change v = .slice Av l2.length cv at hv; rw [HLEN.out] at hv; subst hv)
              | (go_at_call 12; (with_reducible refine (tabAtH (p := q) HS4.out p (by omega) HTA.out).mono ?_); rintro e w5 ⟨rfl, hs⟩; have HS5 := Aside0.mk hs; clear hs; obtain ⟨Av5, cv5, he5, _, hC5⟩ := HS5.out.reads; injection he5 with ea _ _; subst ea; obtain ⟨adv, hAv, hcv⟩ := row_cell hC5 (i := p) (by rw [HLEN.out]; exact cp); subst hAv; rw [(List.getElem?_eq_some_iff.1 hgp).2] at hcv; clear hC5; obtain ⟨adl, hAl, hcl⟩ := row_cell (Kd.C_below HC.out HS5.out.bel) hj2l; subst hAl; rw [HX.out] at hcl))
            all_goals (go_ret; exact ⟨rfl, HS5.out.bel⟩)
        · rw [if_neg cin] at hgp
          have hta := tAt_get hgp
          rw [if_pos rfl] at hta
          cases r with
          | false =>
            clear cin
            have HTA := Aside0.mk hta
            clear hta
            go_wp2_with (first
              | (go_at_call 10; (with_reducible refine (tabLayG (p := q) HS.out a l A c (by unfold okI; omega) (Kd.C_below HC.out HS.out.bel) HZL.out HRS.out HL2.out).mono ?_); rintro e w3 ⟨rfl, hs⟩; have HS3 := Aside0.mk hs; clear hs)
              | (go_at_call 11; (with_reducible refine (tabAllH (p := q) HS3.out (by show l2.length ≤ _; rw [HLEN.out]; omega) rfl).mono ?_); rintro e w4 ⟨v, rfl, hs⟩; have HS4 := Aside0.mk hs; clear hs; obtain ⟨Av, cv, hv, _, _⟩ := HS4.out.reads; change v = .slice Av l2.length cv at hv; rw [HLEN.out] at hv; subst hv)
              | (go_at_call 12; (with_reducible refine (tabAtH (p := q) HS4.out p (by omega) HTA.out).mono ?_); rintro e w5 ⟨rfl, hs⟩; have HS5 := Aside0.mk hs; clear hs; obtain ⟨Av5, cv5, he5, _, hC5⟩ := HS5.out.reads; injection he5 with ea _ _; subst ea; obtain ⟨adv, hAv, hcv⟩ := row_cell hC5 (i := p) (by rw [HLEN.out]; exact cp); subst hAv; rw [(List.getElem?_eq_some_iff.1 hgp).2] at hcv; clear hC5))
            all_goals (go_ret; exact ⟨rfl, HS5.out.bel⟩)
          | true =>
            by_cases c3 : a ≤ p
            · have e3 : decide ((a : Int) ≤ (p : Int)) = true := decide_eq_true (by omega)
              have e3' : decide (a ≤ p) = true := decide_eq_true c3
              have e4 : decide ((p : Int) < (a : Int) + (l.length : Int)) = false := decide_eq_false (fun h => cin ⟨rfl, c3, by omega⟩)
              have e4' : decide (p < a + l.length) = false := decide_eq_false (fun h => cin ⟨rfl, c3, h⟩)
              clear cin
              have HTA := Aside0.mk hta
              clear hta
              go_wp2_with (first
                | (go_at_call 10; (with_reducible refine (tabLayG (p := q) HS.out a l A c (by unfold okI; omega) (Kd.C_below HC.out HS.out.bel) HZL.out HRS.out HL2.out).mono ?_); rintro e w3 ⟨rfl, hs⟩; have HS3 := Aside0.mk hs; clear hs)
                | (go_at_call 11; (with_reducible refine (tabAllH (p := q) HS3.out (by show l2.length ≤ _; rw [HLEN.out]; omega) rfl).mono ?_); rintro e w4 ⟨v, rfl, hs⟩; have HS4 := Aside0.mk hs; clear hs; obtain ⟨Av, cv, hv, _, _⟩ := HS4.out.reads; change v = .slice Av l2.length cv at hv; rw [HLEN.out] at hv; subst hv)
                | (go_at_call 12; (with_reducible refine (tabAtH (p := q) HS4.out p (by omega) HTA.out).mono ?_); rintro e w5 ⟨rfl, hs⟩; have HS5 := Aside0.mk hs; clear hs; obtain ⟨Av5, cv5, he5, _, hC5⟩ := HS5.out.reads; injection he5 with ea _ _; subst ea; obtain ⟨adv, hAv, hcv⟩ := row_cell hC5 (i := p) (by rw [HLEN.out]; exact cp); subst hAv; rw [(List.getElem?_eq_some_iff.1 hgp).2] at hcv; clear hC5))
              all_goals (go_ret; exact ⟨rfl, HS5.out.bel⟩)
            · have e3 : decide ((a : Int) ≤ (p : Int)) = false := decide_eq_false (by omega)
              have e3' : decide (a ≤ p) = false := decide_eq_false c3
              clear cin
              have HTA := Aside0.mk hta
              clear hta
              go_wp2_with (first
                | (go_at_call 10; (with_reducible refine (tabLayG (p := q) HS.out a l A c (by unfold okI; omega) (Kd.C_below HC.out HS.out.bel) HZL.out HRS.out HL2.out).mono ?_); rintro e w3 ⟨rfl, hs⟩; have HS3 := Aside0.mk hs; clear hs)
                | (go_at_call 11; (with_reducible refine (tabAllH (p := q) HS3.out (by show l2.length ≤ _; rw [HLEN.out]; omega) rfl).mono ?_); rintro e w4 ⟨v, rfl, hs⟩; have HS4 := Aside0.mk hs; clear hs; obtain ⟨Av, cv, hv, _, _⟩ := HS4.out.reads; change v = .slice Av l2.length cv at hv; rw [HLEN.out] at hv; subst hv)
                | (go_at_call 12; (with_reducible refine (tabAtH (p := q) HS4.out p (by omega) HTA.out).mono ?_); rintro e w5 ⟨rfl, hs⟩; have HS5 := Aside0.mk hs; clear hs; obtain ⟨Av5, cv5, he5, _, hC5⟩ := HS5.out.reads; injection he5 with ea _ _; subst ea; obtain ⟨adv, hAv, hcv⟩ := row_cell hC5 (i := p) (by rw [HLEN.out]; exact cp); subst hAv; rw [(List.getElem?_eq_some_iff.1 hgp).2] at hcv; clear hC5))
              all_goals (go_ret; exact ⟨rfl, HS5.out.bel⟩)
      · have d6 : decide ((k : Int) ≤ (p : Int)) = true := decide_eq_true (by omega)
        have d6' : decide (k ≤ p) = true := decide_eq_true (by omega)
        have hta : tAt l2 (p : Int) = (0, 5) := by unfold tAt; rw [if_pos (by rw [HLEN.out]; omega)]
        have HTA := Aside0.mk hta
        clear hta
        go_wp2_with (first
          | (go_at_call 10; (with_reducible refine (tabLayG (p := q) HS.out a l A c (by unfold okI; omega) (Kd.C_below HC.out HS.out.bel) HZL.out HRS.out HL2.out).mono ?_); rintro e w3 ⟨rfl, hs⟩; have HS3 := Aside0.mk hs; clear hs)
          | (go_at_call 11; (with_reducible refine (tabAllH (p := q) HS3.out (by show l2.length ≤ _; rw [HLEN.out]; omega) rfl).mono ?_); rintro e w4 ⟨v, rfl, hs⟩; have HS4 := Aside0.mk hs; clear hs; obtain ⟨Av, cv, hv, _, _⟩ := HS4.out.reads; change v = .slice Av l2.length cv at hv; rw [HLEN.out] at hv; subst hv)
          | (go_at_call 12; (with_reducible refine (tabAtH (p := q) HS4.out p (by omega) HTA.out).mono ?_); rintro e w5 ⟨rfl, hs⟩; have HS5 := Aside0.mk hs; clear hs))
        all_goals (go_ret; exact ⟨rfl, HS5.out.bel⟩)
set_option maxRecDepth 100000 in
set_option maxHeartbeats 4000000 in
theorem laysB (n at_ i : Int) (l : List Int) (A : Option Addr) (c : Nat) (w : World) (hC : Kd.C (Kd.int .i64) w A l.length l) (hll : l.length ≤ 300) (k a p : Nat) (hk : bits .and .i64 n 31 = (k : Int)) (hk2 : k ≤ 31) (ha : bits .and .i64 at_ 63 = (a : Int)) (ha2 : a ≤ 63) (hp : bits .and .i64 i 63 = (p : Int)) (hp2 : p ≤ 63) (hc1 : a ≤ k) (hc2 : ¬ l.length + a ≤ k) :
    Calls Try.prog 3 #[.int .i64 n, .int .i64 at_, .slice A l.length c, .int .i64 i] w fun e w' => e = .returned (.bool true) ∧ Below w.heap.size w w' := by
  have d0 : decide ((300 : Int) < (l.length : Int)) = false := decide_eq_false (by omega)
  have d0' : decide (300 < l.length) = false := decide_eq_false (by omega)
  have HC := Aside0.mk hC
  obtain ⟨z, hz⟩ : ∃ z : List Int, z = List.replicate k (-1) := ⟨_, rfl⟩
  obtain ⟨r, hr⟩ : ∃ r, goodAt a k l l.length = r := ⟨_, rfl⟩
  obtain ⟨l2, hl2⟩ : ∃ l2, (tLay z a l).getD z = l2 := ⟨_, rfl⟩
  have hlen2 : l2.length = k := by rw [← hl2, hz]; exact lay_len
  have HGET := Aside0.mk (fun (h : p < k) => (by rw [← hl2, hz, ← hr]; exact lay_get h : l2[p]? = some (if r = true ∧ a ≤ p ∧ p < a + l.length then l.getD (p - a) 0 else -1)))
  have HR := Aside0.mk hr
  have HRS := Aside0.mk (show (tLay z a l).isSome = r by rw [hz, good_lay, hr])
  have HL2 := Aside0.mk hl2
  have HLEN := Aside0.mk hlen2
  have HTB := Aside0.mk (show tBad (k : Int) 0 false = 0 by unfold tBad; rw [if_neg (by simp), if_neg (by omega)])
  have HZ := Aside0.mk hz
  have HZL := Aside0.mk (show z.length ≤ 1000000 by rw [hz, List.length_replicate]; omega)
  have c1 : decide ((a : Int) ≤ (k : Int)) = true := decide_eq_true (by omega)
  have c1' : decide (a ≤ k) = true := decide_eq_true (by omega)
  have c2 : decide ((l.length : Int) ≤ (k : Int) - (a : Int)) = false := decide_eq_false (by omega)
  clear hC hz hr hl2 hlen2
  go_enter Try.func3, Try.ntmps3
  go_wp2_with (first
    | (go_at_call 8; (with_reducible refine (awake _).mono ?_); rintro e w1 ⟨rfl, hb⟩; have HB := Aside0.mk hb; clear hb)
    | (go_at_call 9; (with_reducible refine (newTabOk ((SB.start w).below HB.out) k 0 false HTB.out).mono ?_); rintro e w2 ⟨q, rfl, hs⟩; rw [← HZ.out] at hs; have HS := Aside0.mk hs; clear hs))
  go_loopw [14, 15] (fun v14 v15 wr => ∃ j : Nat, v14 = .bool (goodAt a k l j) ∧ v15 = .int .i64 j ∧ j ≤ l.length ∧ wr = w2) (fun _ v15 _ => l.length - (intOf v15).toNat)
  case atStart => exact ⟨0, by rw [show goodAt a k l 0 = false by unfold goodAt; rw [decide_eq_true (show a ≤ k by omega), decide_eq_false (show ¬ l.length ≤ k - a by omega)]; rfl], rfl, Nat.zero_le _, rfl⟩
  case round =>
    obtain ⟨j, rfl, rfl, hj, rfl⟩ := hrel
    by_cases hlt : j < l.length
    · have e1 : decide ((j : Int) < (l.length : Int)) = true := decide_eq_true (by omega)
      have e2 : decide (j < l.length) = true := decide_eq_true hlt
      obtain ⟨ad, rfl, hcell⟩ := row_cell (Kd.C_below HC.out HS.out.bel) hlt
      have HST := Aside0.mk (goodAt_step (a := a) (k := k) hlt)
      obtain ⟨x, hx⟩ : ∃ x, l[j] = x := ⟨_, rfl⟩
      rw [hx] at hcell
      have HX := Aside0.mk hx
      clear hx
      obtain ⟨g, hg⟩ : ∃ g, goodAt a k l j = g := ⟨_, rfl⟩
      have HG := Aside0.mk hg
      rw [hg]
      clear hg
      cases g with
      | false =>
        go_wp2
        exact ⟨⟨j + 1, by rw [HST.out, HG.out]; rfl, rfl, by omega, trivial⟩, by simp [intOf]; omega⟩
      | true =>
        by_cases cx : -1 ≤ x
        · have d5 : decide (-1 ≤ x) = true := decide_eq_true cx
          go_wp2
          exact ⟨⟨j + 1, by rw [HST.out, HG.out, HX.out, d5]; rfl, rfl, by omega, trivial⟩, by simp [intOf]; omega⟩
        · have d5 : decide (-1 ≤ x) = false := decide_eq_false cx
          go_wp2
          exact ⟨⟨j + 1, by rw [HST.out, HG.out, HX.out, d5]; rfl, rfl, by omega, trivial⟩, by simp [intOf]; omega⟩
    · have e1 : decide ((j : Int) < (l.length : Int)) = false := decide_eq_false (by omega)
      have e2 : decide (j < l.length) = false := decide_eq_false hlt
      obtain rfl : j = l.length := by omega
      rw [HR.out]
      have hwp : IntKind.u64.wrap (p : Int) = (p : Int) := by rw [wrap_u64_]; omega
      by_cases cp : p < k
      · have d6 : decide ((k : Int) ≤ (p : Int)) = false := decide_eq_false (by omega)
        have d6' : decide (k ≤ p) = false := decide_eq_false (by omega)
        have hgp := HGET.out cp
        by_cases cin : r = true ∧ a ≤ p ∧ p < a + l.length
        · rw [if_pos cin] at hgp
          obtain ⟨rfl, hin1, hin2⟩ := cin
          obtain ⟨j2, hj2⟩ : ∃ j2 : Nat, (p : Int) - (a : Int) = (j2 : Int) := ⟨p - a, by omega⟩
          have hj2l : j2 < l.length := by omega
          have hj2e : p - a = j2 := by omega
          rw [hj2e, List.getD_eq_getElem?_getD, List.getElem?_eq_getElem hj2l] at hgp
          obtain ⟨x, hx⟩ : ∃ x, l[j2] = x := ⟨_, rfl⟩
          have hgp : l2[p]? = some x := by rw [hgp, hx]; rfl
          have hx1 : -1 ≤ x := by
            have := HR.out
            unfold goodAt at this
            rw [List.take_length] at this
            simp only [Bool.and_eq_true, List.all_eq_true, decide_eq_true_eq] at this
            exact this.2 x (by rw [← hx]; exact List.getElem_mem _)
          have e3 : decide ((a : Int) ≤ (p : Int)) = true := decide_eq_true (by omega)
          have e3' : decide (a ≤ p) = true := decide_eq_true hin1
          have e4 : decide ((p : Int) < (a : Int) + (l.length : Int)) = true := decide_eq_true (by omega)
          have e4' : decide (p < a + l.length) = true := decide_eq_true hin2
          have HX := Aside0.mk hx
          have hta := tAt_get hgp
          by_cases cx : x = -1
          · rw [if_pos cx] at hta
            subst cx
            have HTA := Aside0.mk hta
            clear hta
            go_wp2_with (first
              | (go_at_call 10; (with_reducible refine (tabLayG (p := q) HS.out a l A c (by unfold okI; omega) (Kd.C_below HC.out HS.out.bel) HZL.out HRS.out HL2.out).mono ?_); rintro e w3 ⟨rfl, hs⟩; have HS3 := Aside0.mk hs; clear hs)
              | (go_at_call 11; (with_reducible refine (tabAllH (p := q) HS3.out (by show l2.length ≤ _; rw [HLEN.out]; omega) rfl).mono ?_); rintro e w4 ⟨v, rfl, hs⟩; have HS4 := Aside0.mk hs; clear hs; obtain ⟨Av, cv, hv, _, _⟩ := HS4.out.reads; change v = .slice Av l2.length cv at hv; rw [HLEN.out] at hv; subst hv)
              | (go_at_call 12; (with_reducible refine (tabAtH (p := q) HS4.out p (by omega) HTA.out).mono ?_); rintro e w5 ⟨rfl, hs⟩; have HS5 := Aside0.mk hs; clear hs; obtain ⟨Av5, cv5, he5, _, hC5⟩ := HS5.out.reads; injection he5 with ea _ _; subst ea; obtain ⟨adv, hAv, hcv⟩ := row_cell hC5 (i := p) (by rw [HLEN.out]; exact cp); subst hAv; rw [(List.getElem?_eq_some_iff.1 hgp).2] at hcv; clear hC5; obtain ⟨adl, hAl, hcl⟩ := row_cell (Kd.C_below HC.out HS5.out.bel) hj2l; subst hAl; rw [HX.out] at hcl))
            all_goals (go_ret; exact ⟨rfl, HS5.out.bel⟩)
          · rw [if_neg cx] at hta
            have d7 : (x == -1) = false := beq_eq_false_iff_ne.2 cx
            have d8 : decide (0 ≤ x) = true := decide_eq_true (by omega)
            have d9 : (x == x) = true := beq_self_eq_true _
            clear cx
            have HTA := Aside0.mk hta
            clear hta
            go_wp2_with (first
              | (go_at_call 10; (with_reducible refine (tabLayG (p := q) HS.out a l A c (by unfold okI; omega) (Kd.C_below HC.out HS.out.bel) HZL.out HRS.out HL2.out).mono ?_); rintro e w3 ⟨rfl, hs⟩; have HS3 := Aside0.mk hs; clear hs)
              | (go_at_call 11; (with_reducible refine (tabAllH (p := q) HS3.out (by show l2.length ≤ _; rw [HLEN.out]; omega) rfl).mono ?_); rintro e w4 ⟨v, rfl, hs⟩; have HS4 := Aside0.mk hs; clear hs; obtain ⟨Av, cv, hv, _, _⟩ := HS4.out.reads; change v = .slice Av l2.length cv at hv; rw [HLEN.out] at hv; subst hv)
              | (go_at_call 12; (with_reducible refine (tabAtH (p := q) HS4.out p (by omega) HTA.out).mono ?_); rintro e w5 ⟨rfl, hs⟩; have HS5 := Aside0.mk hs; clear hs; obtain ⟨Av5, cv5, he5, _, hC5⟩ := HS5.out.reads; injection he5 with ea _ _; subst ea; obtain ⟨adv, hAv, hcv⟩ := row_cell hC5 (i := p) (by rw [HLEN.out]; exact cp); subst hAv; rw [(List.getElem?_eq_some_iff.1 hgp).2] at hcv; clear hC5; obtain ⟨adl, hAl, hcl⟩ := row_cell (Kd.C_below HC.out HS5.out.bel) hj2l; subst hAl; rw [HX.out] at hcl))
            all_goals (go_ret; exact ⟨rfl, HS5.out.bel⟩)
        · rw [if_neg cin] at hgp
          have hta := tAt_get hgp
          rw [if_pos rfl] at hta
          cases r with
          | false =>
            clear cin
            have HTA := Aside0.mk hta
            clear hta
            go_wp2_with (first
              | (go_at_call 10; (with_reducible refine (tabLayG (p := q) HS.out a l A c (by unfold okI; omega) (Kd.C_below HC.out HS.out.bel) HZL.out HRS.out HL2.out).mono ?_); rintro e w3 ⟨rfl, hs⟩; have HS3 := Aside0.mk hs; clear hs)
              | (go_at_call 11; (with_reducible refine (tabAllH (p := q) HS3.out (by show l2.length ≤ _; rw [HLEN.out]; omega) rfl).mono ?_); rintro e w4 ⟨v, rfl, hs⟩; have HS4 := Aside0.mk hs; clear hs; obtain ⟨Av, cv, hv, _, _⟩ := HS4.out.reads; change v = .slice Av l2.length cv at hv; rw [HLEN.out] at hv; subst hv)
              | (go_at_call 12; (with_reducible refine (tabAtH (p := q) HS4.out p (by omega) HTA.out).mono ?_); rintro e w5 ⟨rfl, hs⟩; have HS5 := Aside0.mk hs; clear hs; obtain ⟨Av5, cv5, he5, _, hC5⟩ := HS5.out.reads; injection he5 with ea _ _; subst ea; obtain ⟨adv, hAv, hcv⟩ := row_cell hC5 (i := p) (by rw [HLEN.out]; exact cp); subst hAv; rw [(List.getElem?_eq_some_iff.1 hgp).2] at hcv; clear hC5))
            all_goals (go_ret; exact ⟨rfl, HS5.out.bel⟩)
          | true =>
            by_cases c3 : a ≤ p
            · have e3 : decide ((a : Int) ≤ (p : Int)) = true := decide_eq_true (by omega)
              have e3' : decide (a ≤ p) = true := decide_eq_true c3
              have e4 : decide ((p : Int) < (a : Int) + (l.length : Int)) = false := decide_eq_false (fun h => cin ⟨rfl, c3, by omega⟩)
              have e4' : decide (p < a + l.length) = false := decide_eq_false (fun h => cin ⟨rfl, c3, h⟩)
              clear cin
              have HTA := Aside0.mk hta
              clear hta
              go_wp2_with (first
                | (go_at_call 10; (with_reducible refine (tabLayG (p := q) HS.out a l A c (by unfold okI; omega) (Kd.C_below HC.out HS.out.bel) HZL.out HRS.out HL2.out).mono ?_); rintro e w3 ⟨rfl, hs⟩; have HS3 := Aside0.mk hs; clear hs)
                | (go_at_call 11; (with_reducible refine (tabAllH (p := q) HS3.out (by show l2.length ≤ _; rw [HLEN.out]; omega) rfl).mono ?_); rintro e w4 ⟨v, rfl, hs⟩; have HS4 := Aside0.mk hs; clear hs; obtain ⟨Av, cv, hv, _, _⟩ := HS4.out.reads; change v = .slice Av l2.length cv at hv; rw [HLEN.out] at hv; subst hv)
                | (go_at_call 12; (with_reducible refine (tabAtH (p := q) HS4.out p (by omega) HTA.out).mono ?_); rintro e w5 ⟨rfl, hs⟩; have HS5 := Aside0.mk hs; clear hs; obtain ⟨Av5, cv5, he5, _, hC5⟩ := HS5.out.reads; injection he5 with ea _ _; subst ea; obtain ⟨adv, hAv, hcv⟩ := row_cell hC5 (i := p) (by rw [HLEN.out]; exact cp); subst hAv; rw [(List.getElem?_eq_some_iff.1 hgp).2] at hcv; clear hC5))
              all_goals (go_ret; exact ⟨rfl, HS5.out.bel⟩)
            · have e3 : decide ((a : Int) ≤ (p : Int)) = false := decide_eq_false (by omega)
              have e3' : decide (a ≤ p) = false := decide_eq_false c3
              clear cin
              have HTA := Aside0.mk hta
              clear hta
              go_wp2_with (first
                | (go_at_call 10; (with_reducible refine (tabLayG (p := q) HS.out a l A c (by unfold okI; omega) (Kd.C_below HC.out HS.out.bel) HZL.out HRS.out HL2.out).mono ?_); rintro e w3 ⟨rfl, hs⟩; have HS3 := Aside0.mk hs; clear hs)
                | (go_at_call 11; (with_reducible refine (tabAllH (p := q) HS3.out (by show l2.length ≤ _; rw [HLEN.out]; omega) rfl).mono ?_); rintro e w4 ⟨v, rfl, hs⟩; have HS4 := Aside0.mk hs; clear hs; obtain ⟨Av, cv, hv, _, _⟩ := HS4.out.reads; change v = .slice Av l2.length cv at hv; rw [HLEN.out] at hv; subst hv)
                | (go_at_call 12; (with_reducible refine (tabAtH (p := q) HS4.out p (by omega) HTA.out).mono ?_); rintro e w5 ⟨rfl, hs⟩; have HS5 := Aside0.mk hs; clear hs; obtain ⟨Av5, cv5, he5, _, hC5⟩ := HS5.out.reads; injection he5 with ea _ _; subst ea; obtain ⟨adv, hAv, hcv⟩ := row_cell hC5 (i := p) (by rw [HLEN.out]; exact cp); subst hAv; rw [(List.getElem?_eq_some_iff.1 hgp).2] at hcv; clear hC5))
              all_goals (go_ret; exact ⟨rfl, HS5.out.bel⟩)
      · have d6 : decide ((k : Int) ≤ (p : Int)) = true := decide_eq_true (by omega)
        have d6' : decide (k ≤ p) = true := decide_eq_true (by omega)
        have hta : tAt l2 (p : Int) = (0, 5) := by unfold tAt; rw [if_pos (by rw [HLEN.out]; omega)]
        have HTA := Aside0.mk hta
        clear hta
        go_wp2_with (first
          | (go_at_call 10; (with_reducible refine (tabLayG (p := q) HS.out a l A c (by unfold okI; omega) (Kd.C_below HC.out HS.out.bel) HZL.out HRS.out HL2.out).mono ?_); rintro e w3 ⟨rfl, hs⟩; have HS3 := Aside0.mk hs; clear hs)
          | (go_at_call 11; (with_reducible refine (tabAllH (p := q) HS3.out (by show l2.length ≤ _; rw [HLEN.out]; omega) rfl).mono ?_); rintro e w4 ⟨v, rfl, hs⟩; have HS4 := Aside0.mk hs; clear hs; obtain ⟨Av, cv, hv, _, _⟩ := HS4.out.reads; change v = .slice Av l2.length cv at hv; rw [HLEN.out] at hv; subst hv)
          | (go_at_call 12; (with_reducible refine (tabAtH (p := q) HS4.out p (by omega) HTA.out).mono ?_); rintro e w5 ⟨rfl, hs⟩; have HS5 := Aside0.mk hs; clear hs))
        all_goals (go_ret; exact ⟨rfl, HS5.out.bel⟩)
theorem tableLays (n at_ i : Int) (l : List Int) (A : Option Addr) (c : Nat) (w : World) (hC : Kd.C (Kd.int .i64) w A l.length l) (hll : (l.length : Int) ≤ 9223372036854775807) :
    Calls Try.prog 3 #[.int .i64 n, .int .i64 at_, .slice A l.length c, .int .i64 i] w fun e w' => e = .returned (.bool true) ∧ Below w.heap.size w w' := by
  by_cases c0 : (300 : Int) < (l.length : Int)
  · have d0 : decide ((300 : Int) < (l.length : Int)) = true := decide_eq_true c0
    have d0' : decide (300 < l.length) = true := decide_eq_true (by omega)
    go_enter Try.func3, Try.ntmps3
    go_wp2_with (go_at_call 8; (with_reducible refine (awake _).mono ?_); rintro e w1 ⟨rfl, hb⟩; have HB := Aside0.mk hb; clear hb)
    go_ret
    exact ⟨rfl, HB.out⟩
  · obtain ⟨k, hk, hk2⟩ := and_lowi n 31 (by decide)
    obtain ⟨a, ha, ha2⟩ := and_lowi at_ 63 (by decide)
    obtain ⟨p, hp, hp2⟩ := and_lowi i 63 (by decide)
    by_cases c1 : a ≤ k
    · by_cases c2 : l.length + a ≤ k
      · exact laysT n at_ i l A c w hC (by omega) k a p hk hk2 ha ha2 hp hp2 c1 c2
      · exact laysB n at_ i l A c w hC (by omega) k a p hk hk2 ha ha2 hp hp2 c1 c2
    · exact laysA n at_ i l A c w hC (by omega) k a p hk hk2 ha ha2 hp hp2 c1
def avocetlaw14_TableLays.f (a0 : Int) (a1 : Int) (l2 : List Int) (a3 : Int) : Option (Bool) := if decide (l2.length ≤ 9223372036854775807) then some true else none
theorem avocetlaw14_TableLays.calls (a0 : Int) (a1 : Int) (A2 : Option Addr) (c2 : Nat) (l2 : List Int) (a3 : Int) (r : Bool) (w : World) (hr2 : Kd.C (Kd.int .i64) w A2 l2.length l2) (hc2 : l2.length ≤ c2) (hr_ : r = true) (h : avocetlaw14_TableLays.f a0 a1 l2 a3 = some r) :
    Calls Try.prog 3 #[.int .i64 a0, .int .i64 a1, .slice A2 l2.length c2, .int .i64 a3] w fun e w' => e = .returned (.bool r) ∧ Below w.heap.size w w' := by
  subst hr_
  unfold avocetlaw14_TableLays.f at h
  split at h
  · rename_i hb
    rw [decide_eq_true_eq] at hb
    exact tableLays a0 a1 a3 l2 A2 c2 w hr2 (by omega)
  · cases h
end Go.Proofs.Ytjdnkhgpnddncaa.G

