/- The document's tables: Lay. -/
import Derived.Deep.DeepMust
import Derived.Test.YtjdnkhgpnddncaaTabG
namespace Go.Proofs.Ytjdnkhgpnddncaa.G
open Go.RowKit Go.Proofs.YtjdnkhgpnddncaaW.PrintWords Go.Proofs.YtjdnkhgpnddncaaW.PrintLast Go.Proofs.YtjdnkhgpnddncaaW.PrintMore
set_option linter.unusedVariables false
set_option linter.unusedSimpArgs false
theorem splice_step {l ys : List Int} {k i : Nat} (hi : i < ys.length) (hl : k + ys.length ≤ l.length) : (splice l k (ys.take i)).set (k + i) ys[i] = splice l k (ys.take (i + 1)) := by
  have h1 : (ys.take i).length = i := by rw [List.length_take]; omega
  have h2 : (ys.take (i + 1)).length = i + 1 := by rw [List.length_take]; omega
  unfold splice
  rw [h1, h2]
  have h3 : (l.take k ++ ys.take i).length = k + i := by rw [List.length_append, h1, List.length_take, Nat.min_eq_left (by omega)]
  rw [List.drop_eq_getElem_cons (show k + i < l.length by omega), List.set_append_right _ _ (by rw [h3]; exact Nat.le_refl _), h3, Nat.sub_self, List.set_cons_zero, List.take_succ_eq_append_getElem hi, show k + (i + 1) = k + i + 1 by omega]
  simp only [List.append_assoc, List.cons_append, List.nil_append]
theorem splice_len {l ys : List Int} {k : Nat} (hl : k + ys.length ≤ l.length) : (splice l k ys).length = l.length := splice_length hl
theorem any_take {ys : List Int} {f : Int → Bool} {i : Nat} (hi : i < ys.length) : (ys.take (i + 1)).any f = ((ys.take i).any f || f ys[i]) := by
  rw [List.take_succ_eq_append_getElem hi, List.any_append]
  simp
set_option maxHeartbeats 4000000 in
theorem xtLay {w0 w : World} {L : List As} {p : Nat} {m : Tb} (hS : SB w0 w (XT p m :: L)) (at_ : Int) (ys : List Int) (Ab : Option Addr) (cb : Nat) (ha : okI at_) (hC : Kd.C (Kd.int .i64) w0 Ab ys.length ys) (hlen : m.l.length ≤ 1000000) {r : Bool} {l' : List Int} (hr : (tLay m.l at_ ys).isSome = r) (hl : (tLay m.l at_ ys).getD m.l = l') :
    Calls Try.prog 33 #[.pointer (some ⟨p, 0, none⟩), .int .i64 at_, .slice Ab ys.length cb] w fun e w' => e = .returned (.bool r) ∧ SB w0 w' (XT p { m with l := l' } :: L) := by
  obtain ⟨A, c, hc, h1⟩ := SB.obOpen hS
  have h : w.cell? ⟨p, 0, none⟩ = some (.slice A m.l.length c) := blk_cell h1.blk 0
  obtain ⟨n, hn⟩ : ∃ n, ys.length = n := ⟨_, rfl⟩
  obtain ⟨q, hq⟩ : ∃ q, m.l.length = q := ⟨_, rfl⟩
  have HN := Aside0.mk hn
  have HQ := Aside0.mk hq
  have HS := Aside0.mk hS
  rw [hn] at hC ⊢
  rw [hq] at h hlen hc
  have HC := Aside0.mk hC
  have hmax := Kd.C_max hC
  have hno : tLay m.l at_ ys = none → SB w0 w (XT p { m with l := l' } :: L) ∧ r = false := by
    intro hh
    rw [hh] at hr hl
    have hl2 : m.l = l' := hl
    subst hl2
    exact ⟨HS.out, hr.symm⟩
  have HNO := Aside0.mk hno
  have hw : IntKind.i64.wrap ((q : Int) - at_) = (q : Int) - at_ ∨ at_ < 0 := by
    by_cases h0 : at_ < 0
    · exact .inr h0
    · refine .inl ?_
      rw [IntKind.wrap_i64]
      have := ha.2
      omega
  have HR := Aside0.mk (And.intro hr hl)
  clear h1 hS hC hno hr hl hn hq
  by_cases c0 : at_ < 0
  · have d0 : decide (at_ < 0) = true := decide_eq_true c0
    obtain ⟨hs, rfl⟩ := HNO.out (by unfold tLay; exact if_neg (fun hh => absurd hh.1 (by omega)))
    have HS2 := Aside0.mk hs
    clear hs hw
    go_enter Try.func33, Try.ntmps33
    go_wp2
    go_ret
    exact ⟨rfl, HS2.out⟩
  have d0 : decide (at_ < 0) = false := decide_eq_false c0
  have hw := hw.resolve_right c0
  obtain ⟨k, rfl⟩ := Int.eq_ofNat_of_zero_le (show 0 ≤ at_ by omega)
  by_cases c1 : q < k
  · have d1 : decide ((q : Int) < (k : Int)) = true := decide_eq_true (by omega)
    have d1' : decide (q < k) = true := decide_eq_true c1
    obtain ⟨hs, rfl⟩ := HNO.out (by unfold tLay; rw [HQ.out]; exact if_neg (fun hh => absurd hh.2.1 (by omega)))
    have HS2 := Aside0.mk hs
    clear hs hw
    go_enter Try.func33, Try.ntmps33
    go_wp2
    go_ret
    exact ⟨rfl, HS2.out⟩
  have d1 : decide ((q : Int) < (k : Int)) = false := decide_eq_false (by omega)
  have d1' : decide (q < k) = false := decide_eq_false c1
  obtain ⟨e, he⟩ : ∃ e, q - k = e := ⟨_, rfl⟩
  have hw : IntKind.i64.wrap ((q : Int) - (k : Int)) = (e : Int) := by rw [hw]; omega
  by_cases c2 : e < n
  · have d2 : decide ((e : Int) < (n : Int)) = true := decide_eq_true (by omega)
    have d2' : decide (e < n) = true := decide_eq_true c2
    obtain ⟨hs, rfl⟩ := HNO.out (by unfold tLay; rw [HQ.out, HN.out]; exact if_neg (fun hh => absurd hh.2.2.1 (by omega)))
    have HS2 := Aside0.mk hs
    clear hs he
    go_enter Try.func33, Try.ntmps33
    go_wp2
    go_ret
    exact ⟨rfl, HS2.out⟩
  have d2 : decide ((e : Int) < (n : Int)) = false := decide_eq_false (by omega)
  have d2' : decide (e < n) = false := decide_eq_false c2
  have hkn : k + n ≤ q := by omega
  clear he
  go_enter Try.func33, Try.ntmps33
  go_wp2
  go_loopw [7] (fun v7 wr => ∃ i : Nat, v7 = .int .i64 i ∧ i ≤ n ∧ Aside0 ((ys.take i).any (fun x => decide (x < -1)) = false) ∧ Aside0 (SB w0 wr (XT p m :: L))) (fun v7 _ => n - (intOf v7).toNat)
  case atStart => exact ⟨0, rfl, Nat.zero_le _, ⟨by simp⟩, HS⟩
  case round =>
    obtain ⟨i, rfl, hi, HA, HW⟩ := hrel
    by_cases hlt : i < n
    · have e1 : decide ((i : Int) < (n : Int)) = true := decide_eq_true (by omega)
      have e2 : decide (i < n) = true := decide_eq_true hlt
      have hil : i < ys.length := by rw [HN.out]; exact hlt
      have hCw := Kd.C_below HC.out HW.out.bel
      obtain ⟨ad, rfl, hcell⟩ := row_cell (show Kd.C (Kd.int .i64) wr Ab ys.length ys by rw [HN.out]; exact hCw) hil
      obtain ⟨y, hy⟩ : ∃ y, ys[i] = y := ⟨_, rfl⟩
      have HT := Aside0.mk (any_take (f := fun x => decide (x < -1)) hil)
      rw [hy] at hcell HT
      clear hCw hy
      by_cases hb : y < -1
      · have e3 : decide (y < -1) = true := decide_eq_true hb
        have hany : ys.any (fun x => decide (x < -1)) = true := by
          have h5 : (ys.take (i + 1)).any (fun x => decide (x < -1)) = true := by rw [HT.out, e3, Bool.or_true]
          rw [List.any_eq_true] at h5 ⊢
          obtain ⟨x, hx, hx2⟩ := h5
          exact ⟨x, List.take_subset _ _ hx, hx2⟩
        have h6 : tLay m.l (k : Int) ys = none := by unfold tLay; exact if_neg (fun hh => absurd hh.2.2.2 (by rw [hany]; simp))
        have hRR := HR.out
        rw [h6] at hRR
        obtain ⟨rfl, hl2⟩ := hRR
        have hl2 : m.l = l' := hl2
        subst hl2
        clear hany h6
        go_wp2
        go_ret
        exact ⟨rfl, HW.out⟩
      · have e3 : decide (y < -1) = false := decide_eq_false hb
        go_wp2
        exact ⟨⟨i + 1, by simp, by omega, ⟨by rw [HT.out, HA.out, e3]; rfl⟩, HW⟩, by simp [intOf]; omega⟩
    · have e1 : decide ((i : Int) < (n : Int)) = false := decide_eq_false (by omega)
      have e2 : decide (i < n) = false := decide_eq_false hlt
      have hA := HA.out
      rw [List.take_of_length_le (by rw [HN.out]; omega)] at hA
      have h6 : tLay m.l (k : Int) ys = some (splice m.l k ys) := by
        unfold tLay
        rw [HQ.out, HN.out, if_pos ⟨by omega, by omega, by omega, hA⟩, Int.toNat_natCast]
      have hRR := HR.out
      rw [h6] at hRR
      obtain ⟨rfl, hl2⟩ := hRR
      have hl2 : splice m.l k ys = l' := hl2
      subst hl2
      obtain ⟨A5, c5, hc5, hs5⟩ := SB.obOpen HW.out
      rw [HQ.out] at hc5 hs5
      have HS5 := Aside0.mk hs5
      clear hA h6 hs5
      go_wp2
      go_loopw [8] (fun v8 wr => ∃ i : Nat, v8 = .int .i64 i ∧ i ≤ n ∧ Aside0 (SB w0 wr (Box p #[.slice A5 q c5, .int .i64 m.lo, .int .i64 m.hi, .bool m.has] 88 :: Row (Kd.int .i64) 3 (.slice A5 q c5) (splice m.l k (ys.take i)) :: L))) (fun v8 _ => n - (intOf v8).toNat)
      case atStart => exact ⟨0, rfl, Nat.zero_le _, ⟨by rw [List.take_zero, splice_nil]; exact HS5.out⟩⟩
      case round =>
        obtain ⟨i, rfl, hi, HW2⟩ := hrel
        by_cases hlt2 : i < n
        · have e1 : decide ((i : Int) < (n : Int)) = true := decide_eq_true (by omega)
          have e2 : decide (i < n) = true := decide_eq_true hlt2
          have hil : i < ys.length := by rw [HN.out]; exact hlt2
          obtain ⟨ad, hAd, hcell⟩ := row_cell (show Kd.C (Kd.int .i64) w0 Ab ys.length ys by rw [HN.out]; exact HC.out) hil
          have hst := splice_step (l := m.l) (k := k) hil (by rw [HN.out, HQ.out]; exact hkn)
          obtain ⟨y, hy⟩ : ∃ y, ys[i] = y := ⟨_, rfl⟩
          rw [hy] at hcell hst
          have hln : (splice m.l k (ys.take i)).length = q := by rw [splice_length (by rw [List.length_take, HQ.out]; omega), HQ.out]
          have hw2 := HW2.out.drew
          obtain ⟨g, cg, eg, t0, t1, hset⟩ := SB.rowAt hw2.swap (k + i) (by rw [hln]; omega)
          rw [hln] at eg hset
          injection eg with eg1 eg2 eg3
          have hs6 := hset y
          rw [hst] at hs6
          subst eg1
          clear eg2
          subst eg3
          have hb6 := hs6.swap.blk
          obtain ⟨u0, t0⟩ : ∃ u, wr.drew.cell? ⟨g, k + i, none⟩ = some (.int .i64 u) := ⟨_, t0⟩
          have HB := Aside0.mk (And.intro (blk_cell hw2.blk 0) (And.intro t0 (And.intro t1 hs6)))
          have hwk : IntKind.i64.wrap ((k : Int) + (i : Int)) = ((k + i : Nat) : Int) := by rw [IntKind.wrap_i64]; omega
          obtain ⟨ki, hki⟩ : ∃ j, k + i = j := ⟨_, rfl⟩
          rw [hki] at HB hwk hb6
          have hkq : (ki : Int) < (q : Int) := by omega
          have HCE := Aside0.mk hcell
          have HAD := Aside0.mk hAd
          have HBEL := Aside0.mk hw2.bel
          subst hAd
          have HB6 := Aside0.mk hb6
          clear hset hs6 hst hw2 t0 t1 hy hki hcell hb6
          go_wp2
          refine rg_startL (n := 13) (S := fun w' => Below w0.heap.size w0 w' ∧ w'.cell? ⟨p, 0, none⟩ = some (.slice (some ⟨g, 0, none⟩) q c5)) (bm 13 0) (by kernel_rfl) rfl (by kernel_rfl) (⟨HBEL.out, HB.out.1⟩) (fun wd hwd hHeld => ?_)
          refine rg_take (i := 0) (N := some 49) (v := ?_) (a' := ?_) (bm 13 1) rfl rfl (by kernel_rfl) (fun _ _ _ h => h) hHeld (Or.inl ⟨by rfl, ?_⟩) ?_ ?_
          rotate_left
          · intro w' hw'
            have s0 := hw'.2
            have s1 := pw_cell_below hw'.1 HCE.out
            go_simp
            with_reducible rfl
          rotate_left
          · simp only [Act.put, List.setIfInBounds_toArray, List.set_cons_zero, List.set_cons_succ]
            rfl
          refine rg_take (i := 1) (N := some 50) (v := ?_) (a' := ?_) (bm 13 3) rfl rfl (by kernel_rfl) (fun _ _ _ h => h) hHeld (Or.inl ⟨by rfl, ?_⟩) ?_ ?_
          rotate_left
          · intro w' hw'
            have s0 := hw'.2
            have s1 := pw_cell_below hw'.1 HCE.out
            go_simp
            with_reducible rfl
          rotate_left
          · simp only [Act.put, List.setIfInBounds_toArray, List.set_cons_zero, List.set_cons_succ]
            rfl
          refine rg_take (i := 2) (N := some 51) (v := ?_) (a' := ?_) (bm 13 7) rfl rfl (by kernel_rfl) (fun _ _ _ h => h) hHeld (Or.inl ⟨by rfl, ?_⟩) ?_ ?_
          rotate_left
          · intro w' hw'
            have s0 := hw'.2
            have s1 := pw_cell_below hw'.1 HCE.out
            go_simp
            with_reducible rfl
          rotate_left
          · simp only [Act.put, List.setIfInBounds_toArray, List.set_cons_zero, List.set_cons_succ]
            rfl
          refine rg_take (i := 3) (N := some 52) (v := ?_) (a' := ?_) (bm 13 15) rfl rfl (by kernel_rfl) (fun _ _ _ h => h) hHeld (Or.inl ⟨by rfl, ?_⟩) ?_ ?_
          rotate_left
          · intro w' hw'
            have s0 := hw'.2
            have s1 := pw_cell_below hw'.1 HCE.out
            go_simp
            with_reducible rfl
          rotate_left
          · simp only [Act.put, List.setIfInBounds_toArray, List.set_cons_zero, List.set_cons_succ]
            rfl
          refine rg_take (i := 4) (N := some 53) (v := ?_) (a' := ?_) (bm 13 31) rfl rfl (by kernel_rfl) (fun _ _ _ h => h) hHeld (Or.inl ⟨by rfl, ?_⟩) ?_ ?_
          rotate_left
          · intro w' hw'
            have s0 := hw'.2
            have s1 := pw_cell_below hw'.1 HCE.out
            go_simp
            with_reducible rfl
          rotate_left
          · simp only [Act.put, List.setIfInBounds_toArray, List.set_cons_zero, List.set_cons_succ]
            rfl
          refine rg_take (i := 5) (N := some 54) (v := ?_) (a' := ?_) (bm 13 63) rfl rfl (by kernel_rfl) (fun _ _ _ h => h) hHeld (Or.inl ⟨by rfl, ?_⟩) ?_ ?_
          rotate_left
          · intro w' hw'
            have s0 := hw'.2
            have s1 := pw_cell_below hw'.1 HCE.out
            go_simp
            with_reducible rfl
          rotate_left
          · simp only [Act.put, List.setIfInBounds_toArray, List.set_cons_zero, List.set_cons_succ]
            rfl
          refine rg_take (i := 6) (N := some 55) (v := ?_) (a' := ?_) (bm 13 127) rfl rfl (by kernel_rfl) (fun _ _ _ h => h) hHeld (Or.inl ⟨by rfl, ?_⟩) ?_ ?_
          rotate_left
          · intro w' hw'
            have s0 := hw'.2
            have s1 := pw_cell_below hw'.1 HCE.out
            go_simp
            with_reducible rfl
          rotate_left
          · simp only [Act.put, List.setIfInBounds_toArray, List.set_cons_zero, List.set_cons_succ]
            rfl
          refine rg_take (i := 7) (N := some 56) (v := ?_) (a' := ?_) (bm 13 255) rfl rfl (by kernel_rfl) (fun _ _ _ h => h) hHeld (Or.inl ⟨by rfl, ?_⟩) ?_ ?_
          rotate_left
          · intro w' hw'
            have s0 := hw'.2
            have s1 := pw_cell_below hw'.1 HCE.out
            go_simp
            with_reducible rfl
          rotate_left
          · simp only [Act.put, List.setIfInBounds_toArray, List.set_cons_zero, List.set_cons_succ]
            rfl
          refine rg_take (i := 8) (N := some 57) (v := ?_) (a' := ?_) (bm 13 511) rfl rfl (by kernel_rfl) (fun _ _ _ h => h) hHeld (Or.inl ⟨by rfl, ?_⟩) ?_ ?_
          rotate_left
          · intro w' hw'
            have s0 := hw'.2
            have s1 := pw_cell_below hw'.1 HCE.out
            go_simp
            with_reducible rfl
          rotate_left
          · simp only [Act.put, List.setIfInBounds_toArray, List.set_cons_zero, List.set_cons_succ]
            rfl
          refine rg_take (i := 9) (N := some 58) (v := ?_) (a' := ?_) (bm 13 1023) rfl rfl (by kernel_rfl) (fun _ _ _ h => h) hHeld (Or.inl ⟨by rfl, ?_⟩) ?_ ?_
          rotate_left
          · intro w' hw'
            have s0 := hw'.2
            have s1 := pw_cell_below hw'.1 HCE.out
            go_simp
            with_reducible rfl
          rotate_left
          · simp only [Act.put, List.setIfInBounds_toArray, List.set_cons_zero, List.set_cons_succ]
            rfl
          refine rg_take (i := 10) (N := some 59) (v := ?_) (a' := ?_) (bm 13 2047) rfl rfl (by kernel_rfl) (fun _ _ _ h => h) hHeld (Or.inl ⟨by rfl, ?_⟩) ?_ ?_
          rotate_left
          · intro w' hw'
            have s0 := hw'.2
            have s1 := pw_cell_below hw'.1 HCE.out
            go_simp
            with_reducible rfl
          rotate_left
          · simp only [Act.put, List.setIfInBounds_toArray, List.set_cons_zero, List.set_cons_succ]
            rfl
          refine rg_take (i := 11) (N := some 60) (v := ?_) (a' := ?_) (bm 13 4095) rfl rfl (by kernel_rfl) (fun _ _ _ h => h) hHeld (Or.inl ⟨by rfl, ?_⟩) ?_ ?_
          rotate_left
          · intro w' hw'
            have s0 := hw'.2
            have s1 := pw_cell_below hw'.1 HCE.out
            go_simp
            with_reducible rfl
          rotate_left
          · simp only [Act.put, List.setIfInBounds_toArray, List.set_cons_zero, List.set_cons_succ]
            rfl
          refine rg_ready [12] (by kernel_rfl) (by simp) ?_
          refine rg_one (i := 12) (N := none) (bm 13 8191) rfl rfl (by kernel_rfl) (fun K hK => ?_) rg_nil
          have t0 := hwd.out ▸ HB.out.2.1
          have t1 := hwd.out ▸ HB.out.2.2.1
          have HD := Aside0.mk (hwd.out ▸ HB.out.2.2.2)
          have hnew := And.intro (SB.bel HD.out) (blk_cell HD.out.swap.blk 0)
          go_simp
          refine hK.out undef _ hnew ?_
          clear hK K
          refine rg_norm (a' := ?_) ?_ ?_
          rotate_left
          · simp only [Act.put, List.setIfInBounds_toArray, List.set_cons_zero, List.set_cons_succ]
            rfl
          clear hHeld
          have hHeld := hnew
          clear hnew
          refine rg_done (by kernel_rfl) ?_
          go_wp2
          exact ⟨⟨i + 1, by simp, by omega, ⟨HD.out.swap⟩⟩, by simp [intOf]; omega⟩
        · have e1 : decide ((i : Int) < (n : Int)) = false := decide_eq_false (by omega)
          have e2 : decide (i < n) = false := decide_eq_false hlt2
          go_wp2
          go_ret
          have hw2 := HW2.out
          rw [List.take_of_length_le (by rw [HN.out]; omega)] at hw2
          exact ⟨rfl, SB.obClose hw2⟩
end Go.Proofs.Ytjdnkhgpnddncaa.G
