/- The law TableMany walked. -/
import Derived.Test.YtjdnkhgpnddncaaTabE
import Derived.Test.YtjdnkhgpnddncaaTabP
namespace Go.Proofs.Ytjdnkhgpnddncaa.G
open Go.RowKit Go.Proofs.YtjdnkhgpnddncaaW.PrintWords Go.Proofs.YtjdnkhgpnddncaaW.PrintLast Go.Proofs.YtjdnkhgpnddncaaW.PrintMore
attribute [local go_sem] max2_int min2_int max_two min_two max_three min_three max_four min_four   -- for this text's walks alone
set_option linter.unusedVariables false
set_option linter.unusedSimpArgs false
theorem SB.putI {w0 w : World} {L : List As} {k : IntKind} {e g n c : Nat} {xs : List Int} (h : SB w0 w (Row (Kd.int k) e (.slice (some ⟨g, 0, none⟩) n c) xs :: L)) (i : Nat) (x : Int) : SB w0 (w.setCell ⟨g, i, none⟩ (.int k x)) (Row (Kd.int k) e (.slice (some ⟨g, 0, none⟩) n c) (xs.set i x) :: L) :=
  row_turned h (fun ok hok => Kd.R_putn hok (i : Int) x) ((Fr.refl _ (fun k => k = g)).setCell (p := ⟨g, i, none⟩) (.inl rfl) _)
theorem SB.cellI {w0 w : World} {L : List As} {k : IntKind} {e g n c : Nat} {xs : List Int} (h : SB w0 w (Row (Kd.int k) e (.slice (some ⟨g, 0, none⟩) n c) xs :: L)) {i : Nat} (hi : i < xs.length) : w.cell? ⟨g, i, none⟩ = some (.int k xs[i]) ∧ w.frozen? ⟨g, i, none⟩ = false := by
  obtain ⟨F, hF, _⟩ := h.head
  obtain ⟨rfl, _⟩ := Kd.R_reads' hF.1
  have := Kd.R_celln 0 hF.1 (i : Int) (by omega) (by omega)
  rw [Int.toNat_natCast] at this
  refine ⟨?_, this.2⟩
  rw [this.1]
  unfold rdOf
  rw [Int.toNat_natCast, List.getD_eq_getElem?_getD, List.getElem?_eq_getElem hi]
  rfl
theorem fil_set {N q : Nat} {x : Int} (h : q < N) : (fil N q x).set q x = fil N (q + 1) x := by
  unfold fil
  rw [List.set_append_right _ _ (by simp), List.length_replicate, Nat.sub_self, show N - q = (N - (q + 1)) + 1 by omega, List.replicate_succ, List.set_cons_zero, List.replicate_succ', List.append_assoc]
  rfl
theorem tLay_some {l ys : List Int} {a : Nat} {l' : List Int} (h : tLay l a ys = some l') : l' = splice l a ys ∧ a + ys.length ≤ l.length := by
  unfold tLay at h
  split at h
  · rename_i hc
    exact ⟨by rw [← Option.some.inj h, Int.toNat_natCast], by omega⟩
  · cases h
theorem splice_upto {b l : List Int} {a k : Nat} (hk : k < l.length) (h : a + l.length ≤ b.length) : (splice b a (l.take k)).set (a + k) l[k] = splice b a (l.take (k + 1)) := by
  have := splice_snoc (b := b) (l := l.take k) (a := a) l[k] (by rw [List.length_take]; omega)
  rw [List.length_take, Nat.min_eq_left (by omega)] at this
  rw [this, List.take_succ_eq_append_getElem hk]
theorem newTab12 {w0 w : World} {L : List As} (hS : SB w0 w L) : Calls Try.prog 9 #[.agg #[.int .i64 12, .int .i64 0, .bool false]] w fun e w' => ∃ p, e = .returned (.tuple #[.pointer (some ⟨p, 0, none⟩), .int .i64 0]) ∧ SB w0 w' (TO p ⟨List.replicate 12 (-1), 12, 0, false⟩ :: L) := newTabOk hS 12 0 false rfl
theorem make12 (W : World) : (Instr.makeSlice 22 (.int .i64 12) (.int .i64 12)).run Try.prog W = .ok (.slice (some ⟨W.heap.size, 0, none⟩) 12 12) (W.alloc (.cells (madeCells #[.int .i64 0] 12) 3)) := make22 12 (by decide) W
theorem made12 {w0 w : World} {L : List As} (hS : SB w0 w L) : SB w0 (w.alloc (.cells (madeCells #[.int .i64 0] 12) 3)) (Row (Kd.int .i64) 3 (.slice (some ⟨w.heap.size, 0, none⟩) 12 12) (fil 12 0 (-1)) :: L) := hS.made (n := 12) (by decide)
/-- What lies in both, behind a lot. -/
def nextT (cur : List Int) (x : S40) (a : Nat) : List Int := (tLay cur a x.f5).getD cur
theorem nextT_len {cur : List Int} {x : S40} {a : Nat} (h : cur.length = 12) : (nextT cur x a).length = 12 := by
  unfold nextT
  cases ht : tLay cur a x.f5 with
  | none => exact h
  | some l' =>
    obtain ⟨rfl, h2⟩ := tLay_some ht
    rw [Option.getD_some, splice_length h2, h]
set_option maxRecDepth 100000 in
set_option maxHeartbeats 4000000 in
theorem tableMany (l : List S40) (A : Option Addr) (c : Nat) (w : World) (hC : Kd.C k40 w A l.length l) (hc : l.length ≤ c) :
    Calls Try.prog 4 #[.slice A l.length c] w fun e w' => e = .returned (.bool true) ∧ Below w.heap.size w w' := by
  obtain ⟨ks, hks⟩ := small_ex l
  have HC := Aside0.mk hC
  obtain ⟨sm, hsm⟩ : ∃ sm, smallB l = sm := ⟨_, rfl⟩
  rw [hsm] at hks
  have HKS := Aside0.mk hks
  clear hC hks
  cases sm with
  | false =>
    clear hsm
    go_enter Try.func4, Try.ntmps4
    go_wp2_with (first
      | (go_at_call 8; (with_reducible refine (awake _).mono ?_); rintro e w1 ⟨rfl, hb⟩; have HB := Aside0.mk hb; clear hb)
      | (go_at_call 13; (with_reducible refine (avocetlaw14_small.calls ks A c l _ _ (Kd.C_below HC.out HB.out) hc HKS.out).mono ?_); rintro e w2 ⟨rfl, hd⟩; have HB2 := Aside0.mk (HB.out.trans (Below.mono (drawn_below hd) HB.out.size)); clear hd))
    go_ret
    exact ⟨rfl, HB2.out⟩
  | true =>
    obtain ⟨hl200, hl300⟩ := smallB_iff hsm
    have H300 := Aside0.mk hl300
    have hmk := make12
    clear hsm hl300
    go_enter Try.func4, Try.ntmps4
    go_wp2_with (first
      | (go_at_call 8; (with_reducible refine (awake _).mono ?_); rintro e w1 ⟨rfl, hb⟩; have HB := Aside0.mk hb; clear hb)
      | (go_at_call 13; (with_reducible refine (avocetlaw14_small.calls ks A c l _ _ (Kd.C_below HC.out HB.out) hc HKS.out).mono ?_); rintro e w2 ⟨rfl, hd⟩; have HB2 := Aside0.mk (HB.out.trans (Below.mono (drawn_below hd) HB.out.size)); clear hd)
      | (go_at_call 9; (with_reducible refine (newTab12 ((SB.start w).below HB2.out)).mono ?_); rintro e w3 ⟨p, rfl, hs⟩; have HS := Aside0.mk hs; clear hs))
    have HS1 := Aside0.mk (made12 HS.out)
    obtain ⟨g, hg⟩ : ∃ g, w3.heap.size = g := ⟨_, rfl⟩
    rw [hg] at HS1
    go_loopw [7] (fun v7 wr => ∃ q : Nat, v7 = .int .i64 q ∧ q ≤ 12 ∧ Aside0 (SB w wr [Row (Kd.int .i64) 3 (.slice (some ⟨g, 0, none⟩) 12 12) (fil 12 q (-1)), TO p ⟨List.replicate 12 (-1), 12, 0, false⟩])) (fun v7 _ => 12 - (intOf v7).toNat)
    case atStart => exact ⟨0, rfl, by decide, HS1⟩
    case round =>
      obtain ⟨q, rfl, hq, HW⟩ := hrel
      rw [hg]
      by_cases hlt : q < 12
      · have e1 : decide ((q : Int) < 12) = true := decide_eq_true (by omega)
        have e2 : decide (q < 12) = true := decide_eq_true hlt
        obtain ⟨hx, hf⟩ := HW.out.cellI (i := q) (by rw [fil_length (by omega)]; exact hlt)
        have HF := Aside0.mk (fil_set (x := -1) hlt)
        go_wp2
        exact ⟨⟨q + 1, by simp, by omega, ⟨by rw [← HF.out]; exact HW.out.putI q (-1)⟩⟩, by simp [intOf]; omega⟩
      · have e1 : decide ((q : Int) < 12) = false := decide_eq_false (by omega)
        have e2 : decide (q < 12) = false := decide_eq_false hlt
        obtain rfl : q = 12 := by omega
        go_wp2
        go_loopw [8, 9, 10] (fun v8 v9 v10 wr2 => ∃ (i : Nat) (cur : List Int), v8 = .int .i64 i ∧ i ≤ l.length ∧ cur.length = 12 ∧ Aside0 (SB w wr2 [Row (Kd.int .i64) 3 (.slice (some ⟨g, 0, none⟩) 12 12) cur, TO p ⟨cur, 12, 0, false⟩])) (fun v8 _ _ _ => l.length - (intOf v8).toNat)
        case atStart => exact ⟨0, List.replicate 12 (-1), rfl, Nat.zero_le _, by simp, HW⟩
        case round =>
          obtain ⟨i, cur, rfl, hi, hcl, HW2⟩ := hrel
          have HCL := Aside0.mk hcl
          clear hcl
          by_cases hlt2 : i < l.length
          · have e3 : decide ((i : Int) < (l.length : Int)) = true := decide_eq_true (by omega)
            have e4 : decide (i < l.length) = true := decide_eq_true hlt2
            obtain ⟨x, hx⟩ : ∃ x, l[i] = x := ⟨_, rfl⟩
            have hx300 := H300.out x (by rw [← hx]; exact List.getElem_mem _)
            have HAT := Aside0.mk (fun (W : World) (hb : Below w.heap.size w W) => (by have := at_T40 (Kd.C_below HC.out hb) (i : Int) (by omega) (by omega); rw [rd40 hlt2, hx, Int.toNat_natCast] at this; exact this))
            obtain ⟨ad, A5, c5, hAd, q0, q1, q2, q3, q4, q5, l5, g5⟩ := HAT.out _ HW2.out.bel
            obtain ⟨a, ha, ha2⟩ := and_lowi x.f1 15 (by decide)
            replace ha : bits .and .i64 x.f1 15 = (a : Int) := ha
            have HLA := Aside0.mk (show (tLay cur a x.f5).getD cur = nextT cur x a from rfl)
            have HG5 := Aside0.mk g5
            have HAD := Aside0.mk hAd
            subst hAd
            clear hx q0 q2 q3 q4 g5
            cases ht : tLay cur a x.f5 with
            | none =>
              have HRS := Aside0.mk (show (tLay cur a x.f5).isSome = false by rw [ht]; rfl)
              have HNX := Aside0.mk (show nextT cur x a = cur by unfold nextT; rw [ht]; rfl)
              clear ht
              go_wp2_with (go_at_call 10; (with_reducible refine (tabLayG (p := p) HW2.out a x.f5 A5 c5 (by unfold okI; omega) HG5.out (by show cur.length ≤ _; rw [HCL.out]; decide) HRS.out HLA.out).mono ?_); rintro e w5 ⟨rfl, hs⟩; have HW3 := Aside0.mk hs; clear hs)
              refine ⟨⟨_, _, _, _, _, _, _, _, _, _, _, _, _, _, _, _, _, _, _, _, _, _, _, _, _, _, _, _, _, _, _, _, _, _, _, _, _, _, _, _, _, _, _, _, _, _, _, _, _, _, _, _, _, _, _, _, _, ⟨i + 1, cur, rfl, by omega, HCL.out, ⟨by have := HW3.out; rw [HNX.out] at this; exact this⟩⟩, rfl⟩, ?_⟩
              show l.length - (intOf (.int .i64 ((i : Int) + 1))).toNat < _
              simp [intOf]
              omega
            | some l' =>
              obtain ⟨hl', hfit⟩ := tLay_some ht
              rw [HCL.out] at hfit
              have HRS := Aside0.mk (show (tLay cur a x.f5).isSome = true by rw [ht]; rfl)
              have HNX := Aside0.mk (show nextT cur x a = l' by unfold nextT; rw [ht]; rfl)
              have HL' := Aside0.mk hl'
              have e5 : decide (12 - (a : Int) < (x.f5.length : Int)) = false := decide_eq_false (by omega)
              clear ht hl'
              go_wp2_with (go_at_call 10; (with_reducible refine (tabLayG (p := p) HW2.out a x.f5 A5 c5 (by unfold okI; omega) HG5.out (by show cur.length ≤ _; rw [HCL.out]; decide) HRS.out HLA.out).mono ?_); rintro e w5 ⟨rfl, hs⟩; rw [HNX.out] at hs; have HW3 := Aside0.mk hs; clear hs; obtain ⟨ad2, A6, c6, hAd2, _, r1, _, _, _, r5, _, _⟩ := HAT.out w5 HW3.out.bel; obtain rfl := Option.some.inj hAd2)
              go_loopw [10] (fun v10 wr3 => ∃ (k : Nat), v10 = .int .i64 k ∧ k ≤ x.f5.length ∧ Aside0 (SB w wr3 [Row (Kd.int .i64) 3 (.slice (some ⟨g, 0, none⟩) 12 12) (splice cur a (x.f5.take k)), TO p ⟨l', 12, 0, false⟩])) (fun v10 _ => x.f5.length - (intOf v10).toNat)
              case atStart => exact ⟨0, rfl, Nat.zero_le _, ⟨by rw [List.take_zero, splice_nil]; exact HW3.out⟩⟩
              case round =>
                obtain ⟨k, rfl, hk, HW4⟩ := hrel
                obtain ⟨ad3, A7, c7, hAd3, _, s1, _, _, _, s5, _, s7⟩ := HAT.out _ HW4.out.bel
                obtain rfl := Option.some.inj hAd3
                by_cases hlt3 : k < x.f5.length
                · have e6 : decide ((k : Int) < (x.f5.length : Int)) = true := decide_eq_true (by omega)
                  have e7 : decide (k < x.f5.length) = true := decide_eq_true hlt3
                  obtain ⟨ad4, rfl, hy⟩ := row_cell s7 hlt3
                  obtain ⟨y, hye⟩ : ∃ y, x.f5[k] = y := ⟨_, rfl⟩
                  rw [hye] at hy
                  have HUP := Aside0.mk (splice_upto (b := cur) (a := a) hlt3 (by rw [HCL.out]; exact hfit))
                  have HY := Aside0.mk hye
                  obtain ⟨hz, hzf⟩ := HW4.out.cellI (i := a + k) (by rw [splice_length (by rw [HCL.out, List.length_take]; omega), HCL.out]; omega)
                  clear hye s7
                  go_wp2
                  exact ⟨⟨k + 1, by simp, by omega, ⟨by rw [← HUP.out, HY.out]; exact HW4.out.putI (a + k) y⟩⟩, by simp [intOf]; omega⟩
                · have e6 : decide ((k : Int) < (x.f5.length : Int)) = false := decide_eq_false (by omega)
                  have e7 : decide (k < x.f5.length) = false := decide_eq_false hlt3
                  clear s7
                  go_wp2
                  exact ⟨⟨i + 1, by simp, by omega, l', by rw [HL'.out, splice_length (by rw [HCL.out]; exact hfit), HCL.out], ⟨by have := HW4.out; rw [List.take_of_length_le (by omega), ← HL'.out] at this; exact this⟩⟩, by simp [intOf]; omega⟩
          · have e3 : decide ((i : Int) < (l.length : Int)) = false := decide_eq_false (by omega)
            have e4 : decide (i < l.length) = false := decide_eq_false hlt2
            have HI := Aside0.mk (fun (W : World) (A2 : Option Addr) (c2 : Nat) (h1 : Kd.C (Kd.int .i64) W A2 cur.length cur) (h2 : cur.length ≤ c2) (h3 : Kd.C (Kd.int .i64) W (some ⟨g, 0, none⟩) cur.length cur) => (by have := avocetref03_Ints.calls _ A2 c2 cur (some ⟨g, 0, none⟩) 12 cur true W h1 h2 h3 (by rw [HCL.out]; decide) (ints_self cur (by rw [HCL.out]; decide)); rw [HCL.out] at this; exact this))
            go_wp2_with (first
              | (go_at_call 11; (with_reducible refine (tabAllH (p := p) HW2.out (by show cur.length ≤ _; rw [HCL.out]; decide) rfl).mono ?_); rintro e w5 ⟨v, rfl, hs⟩; obtain ⟨F5, hF5, _⟩ := hs.head; obtain ⟨gv, cv, hv, _⟩ := Kd.R_form hF5.1 (by show 0 < cur.length; rw [HCL.out]; decide); change v = .slice (some ⟨gv, 0, none⟩) cur.length cv at hv; rw [HCL.out] at hv; subst hv; have HW3 := Aside0.mk hs; obtain ⟨hx0, hf0⟩ := hs.cellI (i := 0) (by show 0 < cur.length; rw [HCL.out]; decide); have HW4 := Aside0.mk (HW3.out.putI 0 99); clear hs hF5)
              | (go_at_call 14; (with_reducible refine (tabLenH (p := p) HW4.out HCL.out).mono ?_); rintro e w6 ⟨rfl, hs⟩; have HW5 := Aside0.mk hs; clear hs)
              | (go_at_call 11; (with_reducible refine (tabAllH (p := p) HW5.out (by show cur.length ≤ _; rw [HCL.out]; decide) rfl).mono ?_); rintro e w7 ⟨v, rfl, hs⟩; have HW6 := Aside0.mk hs; clear hs; obtain ⟨Av, cv2, hv, hcv2, hC2⟩ := HW6.out.reads; change v = .slice Av cur.length cv2 at hv; rw [HCL.out] at hv; subst hv; have HC2 := Aside0.mk hC2; have HC3 := Aside0.mk (SB.readRow (d := Kd.int .i64) (e := 3) (some ⟨g, 0, none⟩) 12 12 HW6.out).1; clear hC2)
              | (go_at_call 15; (with_reducible refine (HI.out _ Av cv2 HC2.out hcv2 HC3.out).mono ?_); rintro e w8 ⟨rfl, hd⟩; have HB8 := Aside0.mk (HW6.out.below (drawn_below hd)).bel; clear hd))
            go_ret
            exact ⟨by first | rfl | simp, HB8.out⟩
def avocetlaw14_TableMany.f (l0 : List (S40)) : Option (Bool) := some true
theorem avocetlaw14_TableMany.calls (A0 : Option Addr) (c0 : Nat) (l0 : List (S40)) (r : Bool) (w : World) (hr0 : Kd.C k40 w A0 l0.length l0) (hc0 : l0.length ≤ c0) (hr_ : r = true) (h : avocetlaw14_TableMany.f l0 = some r) :
    Calls Try.prog 4 #[.slice A0 l0.length c0] w fun e w' => e = .returned (.bool r) ∧ Below w.heap.size w w' := by
  subst hr_
  exact tableMany l0 A0 c0 w hr0 hc0
end Go.Proofs.Ytjdnkhgpnddncaa.G

