/- The law MemoryGrows walked. -/
import Derived.Test.YtffoolhfjomhhaaDoorG
import Derived.Test.YtffoolhfjomhhaaDoorG93
import Derived.Test.YtffoolhfjomhhaaDoorGrow
namespace Go.Proofs.YtffoolhfjomhhaaDoor.G
open Go.RowKit Go.Proofs.YtffoolhfjomhhaaDoorW.PrintWords Go.Proofs.YtffoolhfjomhhaaDoorW.PrintLast Go.Proofs.YtffoolhfjomhhaaDoorW.PrintMore
attribute [local go_sem] max2_int min2_int max_two min_two max_three min_three max_four min_four   -- for this text's walks alone
set_option linter.unusedVariables false
set_option linter.unusedSimpArgs false
theorem mGrow_may (m : Mem) (pg : Nat) (x : Int) : (mGrow m pg x).isSome = (decide (0 ≤ x) && decide (x ≤ 4 - pg) && (!m.has || decide (x ≤ m.hi - pg))) := by
  unfold mGrow mMost
  rw [Bool.eq_iff_iff]
  cases m.has with
  | false => simp only [Bool.not_false, Bool.true_or, Bool.and_true, Bool.and_eq_true, decide_eq_true_eq]; split <;> simp_all
  | true => 
    simp only [Bool.not_true, Bool.false_or, Bool.and_eq_true, decide_eq_true_eq, if_true]
    split <;> split <;> simp <;> omega
section
variable {w0 w : World} {L : List As} {p : Nat} {m : Mem} {U : Mem → List As} [hH : Has (MO p) L m U]
include hH
theorem memGrowH {pg : Nat} (hS : SB w0 w L) (hP : Paged m pg) (n : Int) (hn : -9223372036854775808 ≤ n ∧ n < 9223372036854775808) {res : Int} {b' : List Int} (hr : (if (mGrow m pg n).isSome then (pg : Int) else -1) = res) (hb : (mGrow m pg n).getD m.b = b') :
    Calls Tryd.prog 20 #[.pointer (some ⟨p, 0, none⟩), .int .i64 n] w fun e w' => e = .returned (.int .i64 res) ∧ SB w0 w' (U { m with b := b' }) := by
  obtain ⟨R, h1, _, _, h2, _⟩ := hS.at_ (mk := MO p)
  subst hr
  subst hb
  refine (memGrow h1 hP n hn).mono ?_
  rintro e w' ⟨rfl, hs⟩
  exact ⟨rfl, h2 hs⟩
theorem memFitsH (hS : SB w0 w L) (hm : Good m) (base off k : Int) (hb : 0 ≤ base ∧ base < 18446744073709551616) (ho : 0 ≤ off ∧ off < 18446744073709551616) (hk : -9223372036854775808 ≤ k ∧ k < 9223372036854775808) {f : Bool} (hf : mFits m.b.length base off k = f) :
    Calls Tryd.prog 21 #[.pointer (some ⟨p, 0, none⟩), .int .u64 base, .int .u64 off, .int .i64 k] w fun e w' => e = .returned (.bool f) ∧ SB w0 w' L := by
  obtain ⟨R, h1, h2, _⟩ := hS.at_ (mk := MO p)
  subst hf
  refine (memFitsS h1 hm base off k hb ho hk).mono ?_
  rintro e w' ⟨rfl, ⟨nd, rfl⟩⟩
  exact ⟨rfl, h2 (h1.drewN _)⟩
end
theorem mBad_ok {lo hi : Int} {has : Bool} (h : mBad lo hi has = 0) : 0 ≤ lo ∧ lo ≤ 4 ∧ (has = true → 0 ≤ hi ∧ hi ≤ 65536) := by
  unfold mBad at h
  split at h
  · cases h
  · split at h
    · cases h
    · rename_i h1 h2
      refine ⟨by omega, by omega, fun e => ?_⟩
      subst e
      simp only [true_and, not_or] at h1
      omega
set_option maxRecDepth 100000 in
set_option maxHeartbeats 4000000 in
theorem memoryGrows (mn mx : Int) (has : Bool) (n b : List Int) (An Ab : Option Addr) (cn cb : Nat) (w : World) (hG : Globs w) (hmn : -9223372036854775808 ≤ mn ∧ mn < 9223372036854775808) (hmx : -9223372036854775808 ≤ mx ∧ mx < 9223372036854775808) (hN : Kd.C (Kd.int .i64) w An n.length n) (hcn : n.length ≤ cn) (hnl : (n.length : Int) ≤ 9223372036854775807)
    (hno : ∀ x ∈ n, -9223372036854775808 ≤ x ∧ x < 9223372036854775808) (hC : Kd.C (Kd.int .u8) w Ab b.length b) (hcb : b.length ≤ cb) (hbo : Oct b) (hbl : (b.length : Int) ≤ 9223372036854775807) :
    Calls Tryd.prog 7 #[.agg #[.int .i64 mn, .int .i64 mx, .bool has], .slice An n.length cn, .slice Ab b.length cb] w fun e w' => e = .returned (.bool true) ∧ Below w.heap.size w w' := by
  have HS0 := Aside0.mk ((SB.start w).box #[.int .i64 mn, .int .i64 mx, .bool has] 29)
  have HG := Aside0.mk hG
  have HN := Aside0.mk hN
  have HNO := Aside0.mk hno
  have HC := Aside0.mk hC
  have HBO := Aside0.mk hbo
  clear hG hN hno hC hbo
  by_cases c0 : (20 : Int) < (n.length : Int)
  · have d0 : decide ((20 : Int) < (n.length : Int)) = true := decide_eq_true c0
    have d0' : decide (20 < n.length) = true := decide_eq_true (by omega)
    go_enter Tryd.func7, Tryd.ntmps7
    go_wp2_with (go_at_call 9; (with_reducible refine (awake _ (HG.out.below HS0.out.bel)).mono ?_); rintro e w1 ⟨rfl, hb⟩; have HB := Aside0.mk hb; clear hb)
    go_ret
    exact ⟨rfl, (HS0.out.below HB.out).bel⟩
  · have d0 : decide ((20 : Int) < (n.length : Int)) = false := decide_eq_false c0
    have d0' : decide (20 < n.length) = false := decide_eq_false (by omega)
    by_cases c1 : (300 : Int) < (b.length : Int)
    · have d1 : decide ((300 : Int) < (b.length : Int)) = true := decide_eq_true c1
      have d1' : decide (300 < b.length) = true := decide_eq_true (by omega)
      go_enter Tryd.func7, Tryd.ntmps7
      go_wp2_with (go_at_call 9; (with_reducible refine (awake _ (HG.out.below HS0.out.bel)).mono ?_); rintro e w1 ⟨rfl, hb⟩; have HB := Aside0.mk hb; clear hb)
      go_ret
      exact ⟨rfl, (HS0.out.below HB.out).bel⟩
    · have d1 : decide ((300 : Int) < (b.length : Int)) = false := decide_eq_false c1
      have d1' : decide (300 < b.length) = false := decide_eq_false (by omega)
      by_cases c2 : mBad mn mx has = 0
      · have hbd := mBad_ok c2
        obtain ⟨lo, rfl⟩ := Int.eq_ofNat_of_zero_le hbd.1
        have hlo4 : lo ≤ 4 := by omega
        have HHI := Aside0.mk hbd.2.2
        have C2 := Aside0.mk c2
        obtain ⟨z, hz⟩ : ∃ z : List Int, z = List.replicate (65536 * lo) 0 := ⟨_, rfl⟩
        have hzl : z.length = 65536 * lo := by rw [hz, List.length_replicate]
        have hzo : Oct z := fun c hc => by rw [hz] at hc; rw [List.eq_of_mem_replicate hc]; decide
        have HZG := Aside0.mk (show Good ⟨z, lo, mx, has⟩ from ⟨hzo, by show z.length ≤ _; omega⟩)
        obtain ⟨r, hr⟩ : ∃ r, r = (mLay z 0 b).isSome := ⟨_, rfl⟩
        obtain ⟨z1, hz1⟩ : ∃ z1, z1 = (mLay z 0 b).getD z := ⟨_, rfl⟩
        have hlay : (r = true ↔ b.length ≤ z.length) ∧ z1.length = z.length ∧ Oct z1 ∧ (r = true → z1.take b.length = b) := by
          rw [hr, hz1]
          unfold mLay
          by_cases hc : b.length ≤ z.length
          · rw [if_pos (by omega)]
            refine ⟨by simp [hc], ?_, ?_, fun _ => ?_⟩
            · rw [Option.getD_some, splice_length (by simpa using hc)]
            · exact splice_oct hzo HBO.out
            · rw [Option.getD_some]
              have := seg_splice (b := z) (l := b) (a := 0) (by omega)
              simpa [seg] using this
          · rw [if_neg (by omega)]
            exact ⟨by simp [hc], rfl, hzo, fun h => by cases h⟩
        have HR := Aside0.mk hr
        have HZ := Aside0.mk hz
        have HZ1 := Aside0.mk hz1
        have HP0 := Aside0.mk (show Paged ⟨z1, lo, mx, has⟩ lo from ⟨hlay.2.2.1, by show z1.length = _; rw [hlay.2.1, hzl], hlo4, hbd.2.2⟩)
        have HPR := Aside0.mk (show r = true → z1.take b.length = b ∧ b.length ≤ z1.length from fun h => ⟨hlay.2.2.2 h, by rw [hlay.2.1]; exact hlay.1.1 h⟩)
        obtain ⟨NL, hNL⟩ : ∃ NL : Nat, (65536 : Int) * (lo : Int) = (NL : Int) := ⟨65536 * lo, by omega⟩
        have hNL2 : NL ≤ 262144 := by omega
        have hwNL : IntKind.i64.wrap (NL : Int) = (NL : Int) := by rw [IntKind.wrap_i64]; omega
        have hdl : decide (b.length ≤ NL) = r := by rw [Bool.eq_iff_iff, decide_eq_true_iff, hlay.1]; omega
        have hdl' : decide ((b.length : Int) ≤ (NL : Int)) = r := by rw [← hdl]; simp only [Int.ofNat_le]
        clear c2 hbd hr hz hz1 hzl hzo hlay
        go_enter Tryd.func7, Tryd.ntmps7
        go_wp2_with (first
          | (go_at_call 9; (with_reducible refine (awake _ (HG.out.below HS0.out.bel)).mono ?_); rintro e w1 ⟨rfl, hb⟩; have HS1 := Aside0.mk (HS0.out.below hb); have hbx := HS1.out.boxAt w.heap.size 29; have q0 := blk_cell hbx 0; have q1 := blk_cell hbx 1; have q2 := blk_cell hbx 2; clear hb hbx)
          | (go_at_call 10; (with_reducible refine (memNewOk HS1.out lo mx has C2.out).mono ?_); rintro e w2 ⟨p, rfl, hs⟩; rw [← HZ.out] at hs; have HS2 := Aside0.mk hs; clear hs)
          | (go_at_call 19; (with_reducible refine (nilPages _).mono ?_); rintro e w3 ⟨rfl, hd⟩; have HS3 := Aside0.mk (HS2.out.below (drawn_below hd)); clear hd)
          | (go_at_call 20; (with_reducible refine (nilGrow _).mono ?_); rintro e w4 ⟨rfl, hd⟩; have HS4 := Aside0.mk (HS3.out.below (drawn_below hd)); clear hd)
          | (go_at_call 21; (with_reducible refine (nilFits 1 0 0 _ (by decide) (by decide) (by decide) (by decide)).mono ?_); rintro e w5 ⟨rfl, hd⟩; have HS5 := Aside0.mk (HS4.out.below (drawn_below hd)); clear hd)
          | (go_at_call 11; (with_reducible refine (nilStore _ (HG.out.below HS5.out.bel)).mono ?_); rintro e w6 ⟨rfl, hb6⟩; have HS6 := Aside0.mk (HS5.out.below hb6); clear hb6)
          | (go_at_call 16; (with_reducible refine (nilBytes _).mono ?_); rintro e w7 ⟨rfl, hd⟩; have HS7 := Aside0.mk (HS6.out.below (drawn_below hd)); clear hd)
          | (go_at_call 15; (with_reducible refine (memLayG (p := p) HS7.out HZG.out 0 b Ab cb (by decide) (Kd.C_below HC.out HS7.out.bel) hbl HR.out HZ1.out).mono ?_); rintro e w8 ⟨rfl, hs⟩; have HS8 := Aside0.mk hs; have hbx := HS8.out.boxAt w.heap.size 29; have s0 := blk_cell hbx 0; clear hs hbx))
        clear q0 q1 q2 s0
        go_loopw [12, 13, 14, 15, 16] (fun v12 v13 v14 v15 v16 wr => ∃ (i pg : Nat) (m : Mem), v12 = .int .i64 pg ∧ v13 = .int .i64 i ∧ i ≤ n.length ∧ Aside0 (Paged m pg) ∧ Aside0 (m.hi = mx ∧ m.has = has) ∧ Aside0 (r = true → m.b.take b.length = b ∧ b.length ≤ m.b.length) ∧ Aside0 (SB w wr [MO p m, Box w.heap.size #[.int .i64 lo, .int .i64 mx, .bool has] 29])) (fun _ v13 _ _ _ _ => n.length - (intOf v13).toNat)
        case atStart => exact ⟨0, lo, _, rfl, rfl, Nat.zero_le _, HP0, ⟨⟨rfl, rfl⟩⟩, HPR, HS8⟩
        case round =>
          obtain ⟨i, pg, m, rfl, rfl, hi, HP, HM, HPR2, HW⟩ := hrel
          by_cases hlt : i < n.length
          · have e1 : decide ((i : Int) < (n.length : Int)) = true := decide_eq_true (by omega)
            have e2 : decide (i < n.length) = true := decide_eq_true hlt
            have hpg4 := HP.out.le4
            have hw4 : IntKind.i64.wrap (4 - (pg : Int)) = 4 - (pg : Int) := by rw [IntKind.wrap_i64]; omega
            obtain ⟨x, hx⟩ : ∃ x, x = n[i] := ⟨_, rfl⟩
            have hxr := HNO.out x (by rw [hx]; exact List.getElem_mem _)
            obtain ⟨ad, rfl, hcell⟩ := row_cell HN.out hlt
            rw [← hx] at hcell
            have HCELL := Aside0.mk (fun (W : World) (hb : Below w.heap.size w W) => pw_cell_below hb hcell)
            clear hx hcell
            by_cases c3 : 0 ≤ x
            · have g1 : decide (0 ≤ x) = true := decide_eq_true c3
              by_cases c4 : x ≤ 4 - (pg : Int)
              · have g2 : decide (x ≤ 4 - (pg : Int)) = true := decide_eq_true c4
                cases has with
                | false =>
                  obtain ⟨xn, rfl⟩ := Int.eq_ofNat_of_zero_le (show 0 ≤ x by omega)
                  obtain ⟨b2, hb2⟩ : ∃ b2, b2 = m.b ++ List.replicate (65536 * xn) 0 := ⟨_, rfl⟩
                  have hgr : mGrow m pg xn = some b2 := by have h1 := mGrow_may m pg xn; rw [HM.out.1, HM.out.2] at h1; unfold mGrow at h1 ⊢; rw [hb2]; split; exact rfl; rename_i hc; rw [if_neg hc] at h1; simp at h1; omega
                  have HRES := Aside0.mk (show (if (mGrow m pg xn).isSome then (pg : Int) else -1) = (pg : Int) by rw [hgr]; rfl)
                  have HB2 := Aside0.mk (show (mGrow m pg xn).getD m.b = b2 by rw [hgr]; rfl)
                  obtain ⟨pg2, hpg2⟩ : ∃ pg2 : Nat, (pg : Int) + (xn : Int) = (pg2 : Int) := ⟨pg + xn, by omega⟩
                  have HP2 := Aside0.mk (show Paged ⟨b2, m.lo, m.hi, m.has⟩ pg2 from ⟨by rw [hb2]; intro c hc; rcases List.mem_append.1 hc with h | h; exact HP.out.oct c h; rw [List.eq_of_mem_replicate h]; decide, by show b2.length = _; rw [hb2, List.length_append, List.length_replicate, HP.out.len]; omega, by omega, HP.out.hi0⟩)
                  have HPR3 := Aside0.mk (show r = true → b2.take b.length = b ∧ b.length ≤ b2.length from fun h => by obtain ⟨h1, h2⟩ := HPR2.out h; rw [hb2, List.take_append_of_le_length h2]; exact ⟨h1, by rw [List.length_append]; omega⟩)
                  clear hb2 hgr
                  have dm : (-1 == (pg : Int)) = false := beq_eq_false_iff_ne.2 (by omega)
                  have hp24 : pg2 ≤ 4 := HP2.out.le4
                  have HDV := Aside0.mk (show (b2.length : Int) / 65536 = (pg2 : Int) by have h : b2.length = 65536 * pg2 := HP2.out.len; omega)
                  obtain ⟨NN, hNN⟩ : ∃ NN : Nat, (65536 : Int) * (pg2 : Int) = (NN : Int) := ⟨65536 * pg2, by omega⟩
                  have hl2 : b2.length = NN := by have h : b2.length = 65536 * pg2 := HP2.out.len; omega
                  have HFT := Aside0.mk (show mFits b2.length NN 0 1 = false by cases h : mFits b2.length NN 0 1 with | false => rfl | true => have := (mFits_iff.1 h).2.2.2; omega)
                  have hNNr : NN ≤ 262144 := by omega
                  obtain ⟨at_, hat⟩ : ∃ at_ : Int, (NN : Int) - 1 = at_ := ⟨_, rfl⟩
                  obtain ⟨ls, hls⟩ : ∃ ls, mBytes b2 at_ 1 = ls := ⟨_, rfl⟩
                  have hls1 : 0 < pg2 → ls.length = 1 := fun hp => by rw [← hls, ← hat, show (NN : Int) - 1 = ((NN - 1 : Nat) : Int) by omega, show (1 : Int) = ((1 : Nat) : Int) from rfl, mBytes_seg (by omega), seg_length (by omega)]
                  have HBY := Aside0.mk hls
                  clear hls
                  clear hl2
                  go_wp2
                  refine rg_start (n := 31) (S := fun w' => SB w w' [MO p m, Box w.heap.size #[.int .i64 lo, .int .i64 mx, .bool false] 29]) (bm 31 0) (by kernel_rfl) rfl (by kernel_rfl) (HW.out.drew) (fun hHeld => ?_)
                  refine rg_take (i := 0) (N := some 68) (v := ?_) (a' := ?_) (bm 31 1) rfl rfl (by kernel_rfl) (fun _ _ _ h => h) hHeld (Or.inl ⟨by rfl, ?_⟩) ?_ ?_
                  rotate_left
                  · intro w' hw'
                    have hbx := SB.boxAt w.heap.size 29 hw'
                    have s0 := blk_cell hbx 0
                    have s1 := blk_cell hbx 1
                    have s2 := blk_cell hbx 2
                    have hcell := HCELL.out w' hw'.bel
                    go_simp
                    with_reducible rfl
                  rotate_left
                  · simp only [Act.put, List.setIfInBounds_toArray, List.set_cons_zero, List.set_cons_succ]
                    rfl
                  refine rg_take (i := 1) (N := some 69) (v := ?_) (a' := ?_) (bm 31 3) rfl rfl (by kernel_rfl) (fun _ _ _ h => h) hHeld (Or.inl ⟨by rfl, ?_⟩) ?_ ?_
                  rotate_left
                  · intro w' hw'
                    have hbx := SB.boxAt w.heap.size 29 hw'
                    have s0 := blk_cell hbx 0
                    have s1 := blk_cell hbx 1
                    have s2 := blk_cell hbx 2
                    have hcell := HCELL.out w' hw'.bel
                    go_simp
                    with_reducible rfl
                  rotate_left
                  · simp only [Act.put, List.setIfInBounds_toArray, List.set_cons_zero, List.set_cons_succ]
                    rfl
                  refine rg_take (i := 2) (N := some 70) (v := ?_) (a' := ?_) (bm 31 7) rfl rfl (by kernel_rfl) (fun _ _ _ h => h) hHeld (Or.inl ⟨by rfl, ?_⟩) ?_ ?_
                  rotate_left
                  · intro w' hw'
                    have hbx := SB.boxAt w.heap.size 29 hw'
                    have s0 := blk_cell hbx 0
                    have s1 := blk_cell hbx 1
                    have s2 := blk_cell hbx 2
                    have hcell := HCELL.out w' hw'.bel
                    go_simp
                    with_reducible rfl
                  rotate_left
                  · simp only [Act.put, List.setIfInBounds_toArray, List.set_cons_zero, List.set_cons_succ]
                    rfl
                  refine rg_take (i := 3) (N := some 71) (v := ?_) (a' := ?_) (bm 31 15) rfl rfl (by kernel_rfl) (fun _ _ _ h => h) hHeld (Or.inl ⟨by rfl, ?_⟩) ?_ ?_
                  rotate_left
                  · intro w' hw'
                    have hbx := SB.boxAt w.heap.size 29 hw'
                    have s0 := blk_cell hbx 0
                    have s1 := blk_cell hbx 1
                    have s2 := blk_cell hbx 2
                    have hcell := HCELL.out w' hw'.bel
                    go_simp
                    with_reducible rfl
                  rotate_left
                  · simp only [Act.put, List.setIfInBounds_toArray, List.set_cons_zero, List.set_cons_succ]
                    rfl
                  refine rg_take (i := 4) (N := some 72) (v := ?_) (a' := ?_) (bm 31 31) rfl rfl (by kernel_rfl) (fun _ _ _ h => h) hHeld (Or.inl ⟨by rfl, ?_⟩) ?_ ?_
                  rotate_left
                  · intro w' hw'
                    have hbx := SB.boxAt w.heap.size 29 hw'
                    have s0 := blk_cell hbx 0
                    have s1 := blk_cell hbx 1
                    have s2 := blk_cell hbx 2
                    have hcell := HCELL.out w' hw'.bel
                    go_simp
                    with_reducible rfl
                  rotate_left
                  · simp only [Act.put, List.setIfInBounds_toArray, List.set_cons_zero, List.set_cons_succ]
                    rfl
                  refine rg_take (i := 5) (N := some 73) (v := ?_) (a' := ?_) (bm 31 63) rfl rfl (by kernel_rfl) (fun _ _ _ h => h) hHeld (Or.inl ⟨by rfl, ?_⟩) ?_ ?_
                  rotate_left
                  · intro w' hw'
                    have hbx := SB.boxAt w.heap.size 29 hw'
                    have s0 := blk_cell hbx 0
                    have s1 := blk_cell hbx 1
                    have s2 := blk_cell hbx 2
                    have hcell := HCELL.out w' hw'.bel
                    go_simp
                    with_reducible rfl
                  rotate_left
                  · simp only [Act.put, List.setIfInBounds_toArray, List.set_cons_zero, List.set_cons_succ]
                    rfl
                  refine rg_take (i := 6) (N := some 74) (v := ?_) (a' := ?_) (bm 31 127) rfl rfl (by kernel_rfl) (fun _ _ _ h => h) hHeld (Or.inl ⟨by rfl, ?_⟩) ?_ ?_
                  rotate_left
                  · intro w' hw'
                    have hbx := SB.boxAt w.heap.size 29 hw'
                    have s0 := blk_cell hbx 0
                    have s1 := blk_cell hbx 1
                    have s2 := blk_cell hbx 2
                    have hcell := HCELL.out w' hw'.bel
                    go_simp
                    with_reducible rfl
                  rotate_left
                  · simp only [Act.put, List.setIfInBounds_toArray, List.set_cons_zero, List.set_cons_succ]
                    rfl
                  refine rg_take (i := 7) (N := some 75) (v := ?_) (a' := ?_) (bm 31 255) rfl rfl (by kernel_rfl) (fun _ _ _ h => h) hHeld (Or.inl ⟨by rfl, ?_⟩) ?_ ?_
                  rotate_left
                  · intro w' hw'
                    have hbx := SB.boxAt w.heap.size 29 hw'
                    have s0 := blk_cell hbx 0
                    have s1 := blk_cell hbx 1
                    have s2 := blk_cell hbx 2
                    have hcell := HCELL.out w' hw'.bel
                    go_simp
                    with_reducible rfl
                  rotate_left
                  · simp only [Act.put, List.setIfInBounds_toArray, List.set_cons_zero, List.set_cons_succ]
                    rfl
                  refine rg_take (i := 8) (N := some 76) (v := ?_) (a' := ?_) (bm 31 511) rfl rfl (by kernel_rfl) (fun _ _ _ h => h) hHeld (Or.inl ⟨by rfl, ?_⟩) ?_ ?_
                  rotate_left
                  · intro w' hw'
                    have hbx := SB.boxAt w.heap.size 29 hw'
                    have s0 := blk_cell hbx 0
                    have s1 := blk_cell hbx 1
                    have s2 := blk_cell hbx 2
                    have hcell := HCELL.out w' hw'.bel
                    go_simp
                    with_reducible rfl
                  rotate_left
                  · simp only [Act.put, List.setIfInBounds_toArray, List.set_cons_zero, List.set_cons_succ]
                    rfl
                  refine rg_take (i := 9) (N := some 77) (v := ?_) (a' := ?_) (bm 31 1023) rfl rfl (by kernel_rfl) (fun _ _ _ h => h) hHeld (Or.inl ⟨by rfl, ?_⟩) ?_ ?_
                  rotate_left
                  · intro w' hw'
                    have hbx := SB.boxAt w.heap.size 29 hw'
                    have s0 := blk_cell hbx 0
                    have s1 := blk_cell hbx 1
                    have s2 := blk_cell hbx 2
                    have hcell := HCELL.out w' hw'.bel
                    go_simp
                    with_reducible rfl
                  rotate_left
                  · simp only [Act.put, List.setIfInBounds_toArray, List.set_cons_zero, List.set_cons_succ]
                    rfl
                  refine rg_take (i := 10) (N := some 78) (v := ?_) (a' := ?_) (bm 31 2047) rfl rfl (by kernel_rfl) (fun _ _ _ h => h) hHeld (Or.inl ⟨by rfl, ?_⟩) ?_ ?_
                  rotate_left
                  · intro w' hw'
                    have hbx := SB.boxAt w.heap.size 29 hw'
                    have s0 := blk_cell hbx 0
                    have s1 := blk_cell hbx 1
                    have s2 := blk_cell hbx 2
                    have hcell := HCELL.out w' hw'.bel
                    go_simp
                    with_reducible rfl
                  rotate_left
                  · simp only [Act.put, List.setIfInBounds_toArray, List.set_cons_zero, List.set_cons_succ]
                    rfl
                  refine rg_take (i := 11) (N := some 79) (v := ?_) (a' := ?_) (bm 31 4095) rfl rfl (by kernel_rfl) (fun _ _ _ h => h) hHeld (Or.inl ⟨by rfl, ?_⟩) ?_ ?_
                  rotate_left
                  · intro w' hw'
                    have hbx := SB.boxAt w.heap.size 29 hw'
                    have s0 := blk_cell hbx 0
                    have s1 := blk_cell hbx 1
                    have s2 := blk_cell hbx 2
                    have hcell := HCELL.out w' hw'.bel
                    go_simp
                    with_reducible rfl
                  rotate_left
                  · simp only [Act.put, List.setIfInBounds_toArray, List.set_cons_zero, List.set_cons_succ]
                    rfl
                  refine rg_take (i := 12) (N := some 80) (v := ?_) (a' := ?_) (bm 31 8191) rfl rfl (by kernel_rfl) (fun _ _ _ h => h) hHeld (Or.inl ⟨by rfl, ?_⟩) ?_ ?_
                  rotate_left
                  · intro w' hw'
                    have hbx := SB.boxAt w.heap.size 29 hw'
                    have s0 := blk_cell hbx 0
                    have s1 := blk_cell hbx 1
                    have s2 := blk_cell hbx 2
                    have hcell := HCELL.out w' hw'.bel
                    go_simp
                    with_reducible rfl
                  rotate_left
                  · simp only [Act.put, List.setIfInBounds_toArray, List.set_cons_zero, List.set_cons_succ]
                    rfl
                  refine rg_take (i := 13) (N := some 81) (v := ?_) (a' := ?_) (bm 31 16383) rfl rfl (by kernel_rfl) (fun _ _ _ h => h) hHeld (Or.inl ⟨by rfl, ?_⟩) ?_ ?_
                  rotate_left
                  · intro w' hw'
                    have hbx := SB.boxAt w.heap.size 29 hw'
                    have s0 := blk_cell hbx 0
                    have s1 := blk_cell hbx 1
                    have s2 := blk_cell hbx 2
                    have hcell := HCELL.out w' hw'.bel
                    go_simp
                    with_reducible rfl
                  rotate_left
                  · simp only [Act.put, List.setIfInBounds_toArray, List.set_cons_zero, List.set_cons_succ]
                    rfl
                  refine rg_take (i := 14) (N := some 82) (v := ?_) (a' := ?_) (bm 31 32767) rfl rfl (by kernel_rfl) (fun _ _ _ h => h) hHeld (Or.inl ⟨by rfl, ?_⟩) ?_ ?_
                  rotate_left
                  · intro w' hw'
                    have hbx := SB.boxAt w.heap.size 29 hw'
                    have s0 := blk_cell hbx 0
                    have s1 := blk_cell hbx 1
                    have s2 := blk_cell hbx 2
                    have hcell := HCELL.out w' hw'.bel
                    go_simp
                    with_reducible rfl
                  rotate_left
                  · simp only [Act.put, List.setIfInBounds_toArray, List.set_cons_zero, List.set_cons_succ]
                    rfl
                  refine rg_take (i := 15) (N := some 83) (v := ?_) (a' := ?_) (bm 31 65535) rfl rfl (by kernel_rfl) (fun _ _ _ h => h) hHeld (Or.inl ⟨by rfl, ?_⟩) ?_ ?_
                  rotate_left
                  · intro w' hw'
                    have hbx := SB.boxAt w.heap.size 29 hw'
                    have s0 := blk_cell hbx 0
                    have s1 := blk_cell hbx 1
                    have s2 := blk_cell hbx 2
                    have hcell := HCELL.out w' hw'.bel
                    go_simp
                    with_reducible rfl
                  rotate_left
                  · simp only [Act.put, List.setIfInBounds_toArray, List.set_cons_zero, List.set_cons_succ]
                    rfl
                  refine rg_take (i := 16) (N := some 84) (v := ?_) (a' := ?_) (bm 31 131071) rfl rfl (by kernel_rfl) (fun _ _ _ h => h) hHeld (Or.inl ⟨by rfl, ?_⟩) ?_ ?_
                  rotate_left
                  · intro w' hw'
                    have hbx := SB.boxAt w.heap.size 29 hw'
                    have s0 := blk_cell hbx 0
                    have s1 := blk_cell hbx 1
                    have s2 := blk_cell hbx 2
                    have hcell := HCELL.out w' hw'.bel
                    go_simp
                    with_reducible rfl
                  rotate_left
                  · simp only [Act.put, List.setIfInBounds_toArray, List.set_cons_zero, List.set_cons_succ]
                    rfl
                  refine rg_take (i := 17) (N := some 85) (v := ?_) (a' := ?_) (bm 31 262143) rfl rfl (by kernel_rfl) (fun _ _ _ h => h) hHeld (Or.inl ⟨by rfl, ?_⟩) ?_ ?_
                  rotate_left
                  · intro w' hw'
                    have hbx := SB.boxAt w.heap.size 29 hw'
                    have s0 := blk_cell hbx 0
                    have s1 := blk_cell hbx 1
                    have s2 := blk_cell hbx 2
                    have hcell := HCELL.out w' hw'.bel
                    go_simp
                    with_reducible rfl
                  rotate_left
                  · simp only [Act.put, List.setIfInBounds_toArray, List.set_cons_zero, List.set_cons_succ]
                    rfl
                  refine rg_take (i := 18) (N := some 86) (v := ?_) (a' := ?_) (bm 31 524287) rfl rfl (by kernel_rfl) (fun _ _ _ h => h) hHeld (Or.inl ⟨by rfl, ?_⟩) ?_ ?_
                  rotate_left
                  · intro w' hw'
                    have hbx := SB.boxAt w.heap.size 29 hw'
                    have s0 := blk_cell hbx 0
                    have s1 := blk_cell hbx 1
                    have s2 := blk_cell hbx 2
                    have hcell := HCELL.out w' hw'.bel
                    go_simp
                    with_reducible rfl
                  rotate_left
                  · simp only [Act.put, List.setIfInBounds_toArray, List.set_cons_zero, List.set_cons_succ]
                    rfl
                  refine rg_take (i := 19) (N := some 87) (v := undef) (a' := ?_) (bm 31 1048575) rfl rfl (by kernel_rfl) (fun _ _ _ h => h) hHeld (Or.inr ⟨by rfl, rfl⟩) ?_ ?_
                  rotate_left
                  · simp only [Act.put, List.setIfInBounds_toArray, List.set_cons_zero, List.set_cons_succ]
                    rfl
                  refine rg_take (i := 20) (N := some 88) (v := undef) (a' := ?_) (bm 31 2097151) rfl rfl (by kernel_rfl) (fun _ _ _ h => h) hHeld (Or.inr ⟨by rfl, rfl⟩) ?_ ?_
                  rotate_left
                  · simp only [Act.put, List.setIfInBounds_toArray, List.set_cons_zero, List.set_cons_succ]
                    rfl
                  refine rg_take (i := 21) (N := some 89) (v := undef) (a' := ?_) (bm 31 4194303) rfl rfl (by kernel_rfl) (fun _ _ _ h => h) hHeld (Or.inr ⟨by rfl, rfl⟩) ?_ ?_
                  rotate_left
                  · simp only [Act.put, List.setIfInBounds_toArray, List.set_cons_zero, List.set_cons_succ]
                    rfl
                  refine rg_take (i := 22) (N := some 90) (v := undef) (a' := ?_) (bm 31 8388607) rfl rfl (by kernel_rfl) (fun _ _ _ h => h) hHeld (Or.inr ⟨by rfl, rfl⟩) ?_ ?_
                  rotate_left
                  · simp only [Act.put, List.setIfInBounds_toArray, List.set_cons_zero, List.set_cons_succ]
                    rfl
                  refine rg_take (i := 23) (N := some 91) (v := undef) (a' := ?_) (bm 31 16777215) rfl rfl (by kernel_rfl) (fun _ _ _ h => h) hHeld (Or.inr ⟨by rfl, rfl⟩) ?_ ?_
                  rotate_left
                  · simp only [Act.put, List.setIfInBounds_toArray, List.set_cons_zero, List.set_cons_succ]
                    rfl
                  refine rg_take (i := 24) (N := some 92) (v := undef) (a' := ?_) (bm 31 33554431) rfl rfl (by kernel_rfl) (fun _ _ _ h => h) hHeld (Or.inr ⟨by rfl, rfl⟩) ?_ ?_
                  rotate_left
                  · simp only [Act.put, List.setIfInBounds_toArray, List.set_cons_zero, List.set_cons_succ]
                    rfl
                  refine rg_take (i := 25) (N := some 93) (v := undef) (a' := ?_) (bm 31 67108863) rfl rfl (by kernel_rfl) (fun _ _ _ h => h) hHeld (Or.inr ⟨by rfl, rfl⟩) ?_ ?_
                  rotate_left
                  · simp only [Act.put, List.setIfInBounds_toArray, List.set_cons_zero, List.set_cons_succ]
                    rfl
                  refine rg_take (i := 26) (N := some 94) (v := undef) (a' := ?_) (bm 31 134217727) rfl rfl (by kernel_rfl) (fun _ _ _ h => h) hHeld (Or.inr ⟨by rfl, rfl⟩) ?_ ?_
                  rotate_left
                  · simp only [Act.put, List.setIfInBounds_toArray, List.set_cons_zero, List.set_cons_succ]
                    rfl
                  refine rg_take (i := 27) (N := some 95) (v := undef) (a' := ?_) (bm 31 268435455) rfl rfl (by kernel_rfl) (fun _ _ _ h => h) hHeld (Or.inr ⟨by rfl, rfl⟩) ?_ ?_
                  rotate_left
                  · simp only [Act.put, List.setIfInBounds_toArray, List.set_cons_zero, List.set_cons_succ]
                    rfl
                  refine rg_take (i := 28) (N := some 96) (v := ?_) (a' := ?_) (bm 31 536870911) rfl rfl (by kernel_rfl) (fun _ _ _ h => h) hHeld (Or.inl ⟨by rfl, ?_⟩) ?_ ?_
                  rotate_left
                  · intro w' hw'
                    have hbx := SB.boxAt w.heap.size 29 hw'
                    have s0 := blk_cell hbx 0
                    have s1 := blk_cell hbx 1
                    have s2 := blk_cell hbx 2
                    have hcell := HCELL.out w' hw'.bel
                    go_simp
                    with_reducible rfl
                  rotate_left
                  · simp only [Act.put, List.setIfInBounds_toArray, List.set_cons_zero, List.set_cons_succ]
                    rfl
                  refine rg_take (i := 29) (N := some 97) (v := ?_) (a' := ?_) (bm 31 1073741823) rfl rfl (by kernel_rfl) (fun _ _ _ h => h) hHeld (Or.inl ⟨by rfl, ?_⟩) ?_ ?_
                  rotate_left
                  · intro w' hw'
                    have hbx := SB.boxAt w.heap.size 29 hw'
                    have s0 := blk_cell hbx 0
                    have s1 := blk_cell hbx 1
                    have s2 := blk_cell hbx 2
                    have hcell := HCELL.out w' hw'.bel
                    go_simp
                    with_reducible rfl
                  rotate_left
                  · simp only [Act.put, List.setIfInBounds_toArray, List.set_cons_zero, List.set_cons_succ]
                    rfl
                  refine rg_take (i := 30) (N := some 14) (v := ?_) (a' := ?_) (bm 31 2147483647) rfl rfl (by kernel_rfl) (fun _ _ _ h => h) hHeld (Or.inl ⟨by rfl, ?_⟩) ?_ ?_
                  rotate_left
                  · intro w' hw'
                    have hbx := SB.boxAt w.heap.size 29 hw'
                    have s0 := blk_cell hbx 0
                    have s1 := blk_cell hbx 1
                    have s2 := blk_cell hbx 2
                    have hcell := HCELL.out w' hw'.bel
                    go_simp
                    with_reducible rfl
                  rotate_left
                  · simp only [Act.put, List.setIfInBounds_toArray, List.set_cons_zero, List.set_cons_succ]
                    rfl
                  refine rg_done (by kernel_rfl) ?_
                  have hcell := HCELL.out wr.drew HW.out.drew.bel
                  go_wp2_with (first
                    | (go_at_call 20; (with_reducible refine (memGrowH (p := p) HW.out.drew HP.out _ hxr HRES.out HB2.out).mono ?_); rintro e wa ⟨rfl, hs⟩; have HW2 := Aside0.mk hs; have hcell2 := HCELL.out wa HW2.out.bel; clear hs)
                    | (go_at_call 16; (with_reducible refine (memBytesH (p := p) HW2.out HP2.out.good at_ 1 (by omega) (by decide) HBY.out).mono ?_); rintro e wb ⟨v, rfl, hs⟩; have HW3 := Aside0.mk hs; clear hs; obtain ⟨Av, cv, rfl, _, _⟩ := HW3.out.reads)
                    | (go_at_call 19; (with_reducible refine (memPagesH (p := p) HW3.out HP2.out.good HDV.out).mono ?_); rintro e wc ⟨rfl, hs⟩; have HW4 := Aside0.mk hs; clear hs)
                    | (go_at_call 21; (with_reducible refine (memFitsH (p := p) HW4.out HP2.out.good NN 0 1 (by omega) (by decide) (by decide) HFT.out).mono ?_); rintro e wd ⟨rfl, hs⟩; have HW5 := Aside0.mk hs; clear hs))
                  all_goals exact ⟨⟨i + 1, pg2, ⟨b2, m.lo, m.hi, m.has⟩, rfl, by simp, by omega, HP2, HM, HPR3, ⟨HW5.out.drop⟩⟩, by simp [intOf]; omega⟩
                | true =>
                  have hhi := HHI.out rfl
                  have hw5 : IntKind.i64.wrap (mx - (pg : Int)) = mx - (pg : Int) := by rw [IntKind.wrap_i64]; omega
                  by_cases c6 : x ≤ mx - (pg : Int)
                  · have g3 : decide (x ≤ mx - (pg : Int)) = true := decide_eq_true c6
                    obtain ⟨xn, rfl⟩ := Int.eq_ofNat_of_zero_le (show 0 ≤ x by omega)
                    obtain ⟨b2, hb2⟩ : ∃ b2, b2 = m.b ++ List.replicate (65536 * xn) 0 := ⟨_, rfl⟩
                    have hgr : mGrow m pg xn = some b2 := by have h1 := mGrow_may m pg xn; rw [HM.out.1, HM.out.2] at h1; unfold mGrow at h1 ⊢; rw [hb2]; split; exact rfl; rename_i hc; rw [if_neg hc] at h1; simp at h1; omega
                    have HRES := Aside0.mk (show (if (mGrow m pg xn).isSome then (pg : Int) else -1) = (pg : Int) by rw [hgr]; rfl)
                    have HB2 := Aside0.mk (show (mGrow m pg xn).getD m.b = b2 by rw [hgr]; rfl)
                    obtain ⟨pg2, hpg2⟩ : ∃ pg2 : Nat, (pg : Int) + (xn : Int) = (pg2 : Int) := ⟨pg + xn, by omega⟩
                    have HP2 := Aside0.mk (show Paged ⟨b2, m.lo, m.hi, m.has⟩ pg2 from ⟨by rw [hb2]; intro c hc; rcases List.mem_append.1 hc with h | h; exact HP.out.oct c h; rw [List.eq_of_mem_replicate h]; decide, by show b2.length = _; rw [hb2, List.length_append, List.length_replicate, HP.out.len]; omega, by omega, HP.out.hi0⟩)
                    have HPR3 := Aside0.mk (show r = true → b2.take b.length = b ∧ b.length ≤ b2.length from fun h => by obtain ⟨h1, h2⟩ := HPR2.out h; rw [hb2, List.take_append_of_le_length h2]; exact ⟨h1, by rw [List.length_append]; omega⟩)
                    clear hb2 hgr
                    have dm : (-1 == (pg : Int)) = false := beq_eq_false_iff_ne.2 (by omega)
                    have hp24 : pg2 ≤ 4 := HP2.out.le4
                    have HDV := Aside0.mk (show (b2.length : Int) / 65536 = (pg2 : Int) by have h : b2.length = 65536 * pg2 := HP2.out.len; omega)
                    obtain ⟨NN, hNN⟩ : ∃ NN : Nat, (65536 : Int) * (pg2 : Int) = (NN : Int) := ⟨65536 * pg2, by omega⟩
                    have hl2 : b2.length = NN := by have h : b2.length = 65536 * pg2 := HP2.out.len; omega
                    have HFT := Aside0.mk (show mFits b2.length NN 0 1 = false by cases h : mFits b2.length NN 0 1 with | false => rfl | true => have := (mFits_iff.1 h).2.2.2; omega)
                    have hNNr : NN ≤ 262144 := by omega
                    obtain ⟨at_, hat⟩ : ∃ at_ : Int, (NN : Int) - 1 = at_ := ⟨_, rfl⟩
                    obtain ⟨ls, hls⟩ : ∃ ls, mBytes b2 at_ 1 = ls := ⟨_, rfl⟩
                    have hls1 : 0 < pg2 → ls.length = 1 := fun hp => by rw [← hls, ← hat, show (NN : Int) - 1 = ((NN - 1 : Nat) : Int) by omega, show (1 : Int) = ((1 : Nat) : Int) from rfl, mBytes_seg (by omega), seg_length (by omega)]
                    have HBY := Aside0.mk hls
                    clear hls
                    clear hl2
                    go_wp2
                    refine rg_start (n := 31) (S := fun w' => SB w w' [MO p m, Box w.heap.size #[.int .i64 lo, .int .i64 mx, .bool true] 29]) (bm 31 0) (by kernel_rfl) rfl (by kernel_rfl) (HW.out.drew) (fun hHeld => ?_)
                    refine rg_take (i := 0) (N := some 68) (v := ?_) (a' := ?_) (bm 31 1) rfl rfl (by kernel_rfl) (fun _ _ _ h => h) hHeld (Or.inl ⟨by rfl, ?_⟩) ?_ ?_
                    rotate_left
                    · intro w' hw'
                      have hbx := SB.boxAt w.heap.size 29 hw'
                      have s0 := blk_cell hbx 0
                      have s1 := blk_cell hbx 1
                      have s2 := blk_cell hbx 2
                      have hcell := HCELL.out w' hw'.bel
                      go_simp
                      with_reducible rfl
                    rotate_left
                    · simp only [Act.put, List.setIfInBounds_toArray, List.set_cons_zero, List.set_cons_succ]
                      rfl
                    refine rg_take (i := 1) (N := some 69) (v := ?_) (a' := ?_) (bm 31 3) rfl rfl (by kernel_rfl) (fun _ _ _ h => h) hHeld (Or.inl ⟨by rfl, ?_⟩) ?_ ?_
                    rotate_left
                    · intro w' hw'
                      have hbx := SB.boxAt w.heap.size 29 hw'
                      have s0 := blk_cell hbx 0
                      have s1 := blk_cell hbx 1
                      have s2 := blk_cell hbx 2
                      have hcell := HCELL.out w' hw'.bel
                      go_simp
                      with_reducible rfl
                    rotate_left
                    · simp only [Act.put, List.setIfInBounds_toArray, List.set_cons_zero, List.set_cons_succ]
                      rfl
                    refine rg_take (i := 2) (N := some 70) (v := ?_) (a' := ?_) (bm 31 7) rfl rfl (by kernel_rfl) (fun _ _ _ h => h) hHeld (Or.inl ⟨by rfl, ?_⟩) ?_ ?_
                    rotate_left
                    · intro w' hw'
                      have hbx := SB.boxAt w.heap.size 29 hw'
                      have s0 := blk_cell hbx 0
                      have s1 := blk_cell hbx 1
                      have s2 := blk_cell hbx 2
                      have hcell := HCELL.out w' hw'.bel
                      go_simp
                      with_reducible rfl
                    rotate_left
                    · simp only [Act.put, List.setIfInBounds_toArray, List.set_cons_zero, List.set_cons_succ]
                      rfl
                    refine rg_take (i := 3) (N := some 71) (v := ?_) (a' := ?_) (bm 31 15) rfl rfl (by kernel_rfl) (fun _ _ _ h => h) hHeld (Or.inl ⟨by rfl, ?_⟩) ?_ ?_
                    rotate_left
                    · intro w' hw'
                      have hbx := SB.boxAt w.heap.size 29 hw'
                      have s0 := blk_cell hbx 0
                      have s1 := blk_cell hbx 1
                      have s2 := blk_cell hbx 2
                      have hcell := HCELL.out w' hw'.bel
                      go_simp
                      with_reducible rfl
                    rotate_left
                    · simp only [Act.put, List.setIfInBounds_toArray, List.set_cons_zero, List.set_cons_succ]
                      rfl
                    refine rg_take (i := 4) (N := some 72) (v := ?_) (a' := ?_) (bm 31 31) rfl rfl (by kernel_rfl) (fun _ _ _ h => h) hHeld (Or.inl ⟨by rfl, ?_⟩) ?_ ?_
                    rotate_left
                    · intro w' hw'
                      have hbx := SB.boxAt w.heap.size 29 hw'
                      have s0 := blk_cell hbx 0
                      have s1 := blk_cell hbx 1
                      have s2 := blk_cell hbx 2
                      have hcell := HCELL.out w' hw'.bel
                      go_simp
                      with_reducible rfl
                    rotate_left
                    · simp only [Act.put, List.setIfInBounds_toArray, List.set_cons_zero, List.set_cons_succ]
                      rfl
                    refine rg_take (i := 5) (N := some 73) (v := ?_) (a' := ?_) (bm 31 63) rfl rfl (by kernel_rfl) (fun _ _ _ h => h) hHeld (Or.inl ⟨by rfl, ?_⟩) ?_ ?_
                    rotate_left
                    · intro w' hw'
                      have hbx := SB.boxAt w.heap.size 29 hw'
                      have s0 := blk_cell hbx 0
                      have s1 := blk_cell hbx 1
                      have s2 := blk_cell hbx 2
                      have hcell := HCELL.out w' hw'.bel
                      go_simp
                      with_reducible rfl
                    rotate_left
                    · simp only [Act.put, List.setIfInBounds_toArray, List.set_cons_zero, List.set_cons_succ]
                      rfl
                    refine rg_take (i := 6) (N := some 74) (v := ?_) (a' := ?_) (bm 31 127) rfl rfl (by kernel_rfl) (fun _ _ _ h => h) hHeld (Or.inl ⟨by rfl, ?_⟩) ?_ ?_
                    rotate_left
                    · intro w' hw'
                      have hbx := SB.boxAt w.heap.size 29 hw'
                      have s0 := blk_cell hbx 0
                      have s1 := blk_cell hbx 1
                      have s2 := blk_cell hbx 2
                      have hcell := HCELL.out w' hw'.bel
                      go_simp
                      with_reducible rfl
                    rotate_left
                    · simp only [Act.put, List.setIfInBounds_toArray, List.set_cons_zero, List.set_cons_succ]
                      rfl
                    refine rg_take (i := 7) (N := some 75) (v := ?_) (a' := ?_) (bm 31 255) rfl rfl (by kernel_rfl) (fun _ _ _ h => h) hHeld (Or.inl ⟨by rfl, ?_⟩) ?_ ?_
                    rotate_left
                    · intro w' hw'
                      have hbx := SB.boxAt w.heap.size 29 hw'
                      have s0 := blk_cell hbx 0
                      have s1 := blk_cell hbx 1
                      have s2 := blk_cell hbx 2
                      have hcell := HCELL.out w' hw'.bel
                      go_simp
                      with_reducible rfl
                    rotate_left
                    · simp only [Act.put, List.setIfInBounds_toArray, List.set_cons_zero, List.set_cons_succ]
                      rfl
                    refine rg_take (i := 8) (N := some 76) (v := ?_) (a' := ?_) (bm 31 511) rfl rfl (by kernel_rfl) (fun _ _ _ h => h) hHeld (Or.inl ⟨by rfl, ?_⟩) ?_ ?_
                    rotate_left
                    · intro w' hw'
                      have hbx := SB.boxAt w.heap.size 29 hw'
                      have s0 := blk_cell hbx 0
                      have s1 := blk_cell hbx 1
                      have s2 := blk_cell hbx 2
                      have hcell := HCELL.out w' hw'.bel
                      go_simp
                      with_reducible rfl
                    rotate_left
                    · simp only [Act.put, List.setIfInBounds_toArray, List.set_cons_zero, List.set_cons_succ]
                      rfl
                    refine rg_take (i := 9) (N := some 77) (v := ?_) (a' := ?_) (bm 31 1023) rfl rfl (by kernel_rfl) (fun _ _ _ h => h) hHeld (Or.inl ⟨by rfl, ?_⟩) ?_ ?_
                    rotate_left
                    · intro w' hw'
                      have hbx := SB.boxAt w.heap.size 29 hw'
                      have s0 := blk_cell hbx 0
                      have s1 := blk_cell hbx 1
                      have s2 := blk_cell hbx 2
                      have hcell := HCELL.out w' hw'.bel
                      go_simp
                      with_reducible rfl
                    rotate_left
                    · simp only [Act.put, List.setIfInBounds_toArray, List.set_cons_zero, List.set_cons_succ]
                      rfl
                    refine rg_take (i := 10) (N := some 78) (v := ?_) (a' := ?_) (bm 31 2047) rfl rfl (by kernel_rfl) (fun _ _ _ h => h) hHeld (Or.inl ⟨by rfl, ?_⟩) ?_ ?_
                    rotate_left
                    · intro w' hw'
                      have hbx := SB.boxAt w.heap.size 29 hw'
                      have s0 := blk_cell hbx 0
                      have s1 := blk_cell hbx 1
                      have s2 := blk_cell hbx 2
                      have hcell := HCELL.out w' hw'.bel
                      go_simp
                      with_reducible rfl
                    rotate_left
                    · simp only [Act.put, List.setIfInBounds_toArray, List.set_cons_zero, List.set_cons_succ]
                      rfl
                    refine rg_take (i := 11) (N := some 79) (v := ?_) (a' := ?_) (bm 31 4095) rfl rfl (by kernel_rfl) (fun _ _ _ h => h) hHeld (Or.inl ⟨by rfl, ?_⟩) ?_ ?_
                    rotate_left
                    · intro w' hw'
                      have hbx := SB.boxAt w.heap.size 29 hw'
                      have s0 := blk_cell hbx 0
                      have s1 := blk_cell hbx 1
                      have s2 := blk_cell hbx 2
                      have hcell := HCELL.out w' hw'.bel
                      go_simp
                      with_reducible rfl
                    rotate_left
                    · simp only [Act.put, List.setIfInBounds_toArray, List.set_cons_zero, List.set_cons_succ]
                      rfl
                    refine rg_take (i := 12) (N := some 80) (v := ?_) (a' := ?_) (bm 31 8191) rfl rfl (by kernel_rfl) (fun _ _ _ h => h) hHeld (Or.inl ⟨by rfl, ?_⟩) ?_ ?_
                    rotate_left
                    · intro w' hw'
                      have hbx := SB.boxAt w.heap.size 29 hw'
                      have s0 := blk_cell hbx 0
                      have s1 := blk_cell hbx 1
                      have s2 := blk_cell hbx 2
                      have hcell := HCELL.out w' hw'.bel
                      go_simp
                      with_reducible rfl
                    rotate_left
                    · simp only [Act.put, List.setIfInBounds_toArray, List.set_cons_zero, List.set_cons_succ]
                      rfl
                    refine rg_take (i := 13) (N := some 81) (v := ?_) (a' := ?_) (bm 31 16383) rfl rfl (by kernel_rfl) (fun _ _ _ h => h) hHeld (Or.inl ⟨by rfl, ?_⟩) ?_ ?_
                    rotate_left
                    · intro w' hw'
                      have hbx := SB.boxAt w.heap.size 29 hw'
                      have s0 := blk_cell hbx 0
                      have s1 := blk_cell hbx 1
                      have s2 := blk_cell hbx 2
                      have hcell := HCELL.out w' hw'.bel
                      go_simp
                      with_reducible rfl
                    rotate_left
                    · simp only [Act.put, List.setIfInBounds_toArray, List.set_cons_zero, List.set_cons_succ]
                      rfl
                    refine rg_take (i := 14) (N := some 82) (v := ?_) (a' := ?_) (bm 31 32767) rfl rfl (by kernel_rfl) (fun _ _ _ h => h) hHeld (Or.inl ⟨by rfl, ?_⟩) ?_ ?_
                    rotate_left
                    · intro w' hw'
                      have hbx := SB.boxAt w.heap.size 29 hw'
                      have s0 := blk_cell hbx 0
                      have s1 := blk_cell hbx 1
                      have s2 := blk_cell hbx 2
                      have hcell := HCELL.out w' hw'.bel
                      go_simp
                      with_reducible rfl
                    rotate_left
                    · simp only [Act.put, List.setIfInBounds_toArray, List.set_cons_zero, List.set_cons_succ]
                      rfl
                    refine rg_take (i := 15) (N := some 83) (v := ?_) (a' := ?_) (bm 31 65535) rfl rfl (by kernel_rfl) (fun _ _ _ h => h) hHeld (Or.inl ⟨by rfl, ?_⟩) ?_ ?_
                    rotate_left
                    · intro w' hw'
                      have hbx := SB.boxAt w.heap.size 29 hw'
                      have s0 := blk_cell hbx 0
                      have s1 := blk_cell hbx 1
                      have s2 := blk_cell hbx 2
                      have hcell := HCELL.out w' hw'.bel
                      go_simp
                      with_reducible rfl
                    rotate_left
                    · simp only [Act.put, List.setIfInBounds_toArray, List.set_cons_zero, List.set_cons_succ]
                      rfl
                    refine rg_take (i := 16) (N := some 84) (v := ?_) (a' := ?_) (bm 31 131071) rfl rfl (by kernel_rfl) (fun _ _ _ h => h) hHeld (Or.inl ⟨by rfl, ?_⟩) ?_ ?_
                    rotate_left
                    · intro w' hw'
                      have hbx := SB.boxAt w.heap.size 29 hw'
                      have s0 := blk_cell hbx 0
                      have s1 := blk_cell hbx 1
                      have s2 := blk_cell hbx 2
                      have hcell := HCELL.out w' hw'.bel
                      go_simp
                      with_reducible rfl
                    rotate_left
                    · simp only [Act.put, List.setIfInBounds_toArray, List.set_cons_zero, List.set_cons_succ]
                      rfl
                    refine rg_take (i := 17) (N := some 85) (v := ?_) (a' := ?_) (bm 31 262143) rfl rfl (by kernel_rfl) (fun _ _ _ h => h) hHeld (Or.inl ⟨by rfl, ?_⟩) ?_ ?_
                    rotate_left
                    · intro w' hw'
                      have hbx := SB.boxAt w.heap.size 29 hw'
                      have s0 := blk_cell hbx 0
                      have s1 := blk_cell hbx 1
                      have s2 := blk_cell hbx 2
                      have hcell := HCELL.out w' hw'.bel
                      go_simp
                      with_reducible rfl
                    rotate_left
                    · simp only [Act.put, List.setIfInBounds_toArray, List.set_cons_zero, List.set_cons_succ]
                      rfl
                    refine rg_take (i := 18) (N := some 86) (v := ?_) (a' := ?_) (bm 31 524287) rfl rfl (by kernel_rfl) (fun _ _ _ h => h) hHeld (Or.inl ⟨by rfl, ?_⟩) ?_ ?_
                    rotate_left
                    · intro w' hw'
                      have hbx := SB.boxAt w.heap.size 29 hw'
                      have s0 := blk_cell hbx 0
                      have s1 := blk_cell hbx 1
                      have s2 := blk_cell hbx 2
                      have hcell := HCELL.out w' hw'.bel
                      go_simp
                      with_reducible rfl
                    rotate_left
                    · simp only [Act.put, List.setIfInBounds_toArray, List.set_cons_zero, List.set_cons_succ]
                      rfl
                    refine rg_take (i := 19) (N := some 87) (v := ?_) (a' := ?_) (bm 31 1048575) rfl rfl (by kernel_rfl) (fun _ _ _ h => h) hHeld (Or.inl ⟨by rfl, ?_⟩) ?_ ?_
                    rotate_left
                    · intro w' hw'
                      have hbx := SB.boxAt w.heap.size 29 hw'
                      have s0 := blk_cell hbx 0
                      have s1 := blk_cell hbx 1
                      have s2 := blk_cell hbx 2
                      have hcell := HCELL.out w' hw'.bel
                      go_simp
                      with_reducible rfl
                    rotate_left
                    · simp only [Act.put, List.setIfInBounds_toArray, List.set_cons_zero, List.set_cons_succ]
                      rfl
                    refine rg_take (i := 20) (N := some 88) (v := ?_) (a' := ?_) (bm 31 2097151) rfl rfl (by kernel_rfl) (fun _ _ _ h => h) hHeld (Or.inl ⟨by rfl, ?_⟩) ?_ ?_
                    rotate_left
                    · intro w' hw'
                      have hbx := SB.boxAt w.heap.size 29 hw'
                      have s0 := blk_cell hbx 0
                      have s1 := blk_cell hbx 1
                      have s2 := blk_cell hbx 2
                      have hcell := HCELL.out w' hw'.bel
                      go_simp
                      with_reducible rfl
                    rotate_left
                    · simp only [Act.put, List.setIfInBounds_toArray, List.set_cons_zero, List.set_cons_succ]
                      rfl
                    refine rg_take (i := 21) (N := some 89) (v := ?_) (a' := ?_) (bm 31 4194303) rfl rfl (by kernel_rfl) (fun _ _ _ h => h) hHeld (Or.inl ⟨by rfl, ?_⟩) ?_ ?_
                    rotate_left
                    · intro w' hw'
                      have hbx := SB.boxAt w.heap.size 29 hw'
                      have s0 := blk_cell hbx 0
                      have s1 := blk_cell hbx 1
                      have s2 := blk_cell hbx 2
                      have hcell := HCELL.out w' hw'.bel
                      go_simp
                      with_reducible rfl
                    rotate_left
                    · simp only [Act.put, List.setIfInBounds_toArray, List.set_cons_zero, List.set_cons_succ]
                      rfl
                    refine rg_take (i := 22) (N := some 90) (v := ?_) (a' := ?_) (bm 31 8388607) rfl rfl (by kernel_rfl) (fun _ _ _ h => h) hHeld (Or.inl ⟨by rfl, ?_⟩) ?_ ?_
                    rotate_left
                    · intro w' hw'
                      have hbx := SB.boxAt w.heap.size 29 hw'
                      have s0 := blk_cell hbx 0
                      have s1 := blk_cell hbx 1
                      have s2 := blk_cell hbx 2
                      have hcell := HCELL.out w' hw'.bel
                      go_simp
                      with_reducible rfl
                    rotate_left
                    · simp only [Act.put, List.setIfInBounds_toArray, List.set_cons_zero, List.set_cons_succ]
                      rfl
                    refine rg_take (i := 23) (N := some 91) (v := ?_) (a' := ?_) (bm 31 16777215) rfl rfl (by kernel_rfl) (fun _ _ _ h => h) hHeld (Or.inl ⟨by rfl, ?_⟩) ?_ ?_
                    rotate_left
                    · intro w' hw'
                      have hbx := SB.boxAt w.heap.size 29 hw'
                      have s0 := blk_cell hbx 0
                      have s1 := blk_cell hbx 1
                      have s2 := blk_cell hbx 2
                      have hcell := HCELL.out w' hw'.bel
                      go_simp
                      with_reducible rfl
                    rotate_left
                    · simp only [Act.put, List.setIfInBounds_toArray, List.set_cons_zero, List.set_cons_succ]
                      rfl
                    refine rg_take (i := 24) (N := some 92) (v := ?_) (a' := ?_) (bm 31 33554431) rfl rfl (by kernel_rfl) (fun _ _ _ h => h) hHeld (Or.inl ⟨by rfl, ?_⟩) ?_ ?_
                    rotate_left
                    · intro w' hw'
                      have hbx := SB.boxAt w.heap.size 29 hw'
                      have s0 := blk_cell hbx 0
                      have s1 := blk_cell hbx 1
                      have s2 := blk_cell hbx 2
                      have hcell := HCELL.out w' hw'.bel
                      go_simp
                      with_reducible rfl
                    rotate_left
                    · simp only [Act.put, List.setIfInBounds_toArray, List.set_cons_zero, List.set_cons_succ]
                      rfl
                    refine rg_take (i := 25) (N := some 93) (v := ?_) (a' := ?_) (bm 31 67108863) rfl rfl (by kernel_rfl) (fun _ _ _ h => h) hHeld (Or.inl ⟨by rfl, ?_⟩) ?_ ?_
                    rotate_left
                    · intro w' hw'
                      have hbx := SB.boxAt w.heap.size 29 hw'
                      have s0 := blk_cell hbx 0
                      have s1 := blk_cell hbx 1
                      have s2 := blk_cell hbx 2
                      have hcell := HCELL.out w' hw'.bel
                      go_simp
                      with_reducible rfl
                    rotate_left
                    · simp only [Act.put, List.setIfInBounds_toArray, List.set_cons_zero, List.set_cons_succ]
                      rfl
                    refine rg_take (i := 26) (N := some 94) (v := ?_) (a' := ?_) (bm 31 134217727) rfl rfl (by kernel_rfl) (fun _ _ _ h => h) hHeld (Or.inl ⟨by rfl, ?_⟩) ?_ ?_
                    rotate_left
                    · intro w' hw'
                      have hbx := SB.boxAt w.heap.size 29 hw'
                      have s0 := blk_cell hbx 0
                      have s1 := blk_cell hbx 1
                      have s2 := blk_cell hbx 2
                      have hcell := HCELL.out w' hw'.bel
                      go_simp
                      with_reducible rfl
                    rotate_left
                    · simp only [Act.put, List.setIfInBounds_toArray, List.set_cons_zero, List.set_cons_succ]
                      rfl
                    refine rg_take (i := 27) (N := some 95) (v := ?_) (a' := ?_) (bm 31 268435455) rfl rfl (by kernel_rfl) (fun _ _ _ h => h) hHeld (Or.inl ⟨by rfl, ?_⟩) ?_ ?_
                    rotate_left
                    · intro w' hw'
                      have hbx := SB.boxAt w.heap.size 29 hw'
                      have s0 := blk_cell hbx 0
                      have s1 := blk_cell hbx 1
                      have s2 := blk_cell hbx 2
                      have hcell := HCELL.out w' hw'.bel
                      go_simp
                      with_reducible rfl
                    rotate_left
                    · simp only [Act.put, List.setIfInBounds_toArray, List.set_cons_zero, List.set_cons_succ]
                      rfl
                    refine rg_take (i := 28) (N := some 96) (v := ?_) (a' := ?_) (bm 31 536870911) rfl rfl (by kernel_rfl) (fun _ _ _ h => h) hHeld (Or.inl ⟨by rfl, ?_⟩) ?_ ?_
                    rotate_left
                    · intro w' hw'
                      have hbx := SB.boxAt w.heap.size 29 hw'
                      have s0 := blk_cell hbx 0
                      have s1 := blk_cell hbx 1
                      have s2 := blk_cell hbx 2
                      have hcell := HCELL.out w' hw'.bel
                      go_simp
                      with_reducible rfl
                    rotate_left
                    · simp only [Act.put, List.setIfInBounds_toArray, List.set_cons_zero, List.set_cons_succ]
                      rfl
                    refine rg_take (i := 29) (N := some 97) (v := ?_) (a' := ?_) (bm 31 1073741823) rfl rfl (by kernel_rfl) (fun _ _ _ h => h) hHeld (Or.inl ⟨by rfl, ?_⟩) ?_ ?_
                    rotate_left
                    · intro w' hw'
                      have hbx := SB.boxAt w.heap.size 29 hw'
                      have s0 := blk_cell hbx 0
                      have s1 := blk_cell hbx 1
                      have s2 := blk_cell hbx 2
                      have hcell := HCELL.out w' hw'.bel
                      go_simp
                      with_reducible rfl
                    rotate_left
                    · simp only [Act.put, List.setIfInBounds_toArray, List.set_cons_zero, List.set_cons_succ]
                      rfl
                    refine rg_take (i := 30) (N := some 14) (v := ?_) (a' := ?_) (bm 31 2147483647) rfl rfl (by kernel_rfl) (fun _ _ _ h => h) hHeld (Or.inl ⟨by rfl, ?_⟩) ?_ ?_
                    rotate_left
                    · intro w' hw'
                      have hbx := SB.boxAt w.heap.size 29 hw'
                      have s0 := blk_cell hbx 0
                      have s1 := blk_cell hbx 1
                      have s2 := blk_cell hbx 2
                      have hcell := HCELL.out w' hw'.bel
                      go_simp
                      with_reducible rfl
                    rotate_left
                    · simp only [Act.put, List.setIfInBounds_toArray, List.set_cons_zero, List.set_cons_succ]
                      rfl
                    refine rg_done (by kernel_rfl) ?_
                    have hcell := HCELL.out wr.drew HW.out.drew.bel
                    go_wp2_with (first
                      | (go_at_call 20; (with_reducible refine (memGrowH (p := p) HW.out.drew HP.out _ hxr HRES.out HB2.out).mono ?_); rintro e wa ⟨rfl, hs⟩; have HW2 := Aside0.mk hs; have hcell2 := HCELL.out wa HW2.out.bel; clear hs)
                      | (go_at_call 16; (with_reducible refine (memBytesH (p := p) HW2.out HP2.out.good at_ 1 (by omega) (by decide) HBY.out).mono ?_); rintro e wb ⟨v, rfl, hs⟩; have HW3 := Aside0.mk hs; clear hs; obtain ⟨Av, cv, rfl, _, _⟩ := HW3.out.reads)
                      | (go_at_call 19; (with_reducible refine (memPagesH (p := p) HW3.out HP2.out.good HDV.out).mono ?_); rintro e wc ⟨rfl, hs⟩; have HW4 := Aside0.mk hs; clear hs)
                      | (go_at_call 21; (with_reducible refine (memFitsH (p := p) HW4.out HP2.out.good NN 0 1 (by omega) (by decide) (by decide) HFT.out).mono ?_); rintro e wd ⟨rfl, hs⟩; have HW5 := Aside0.mk hs; clear hs))
                    all_goals exact ⟨⟨i + 1, pg2, ⟨b2, m.lo, m.hi, m.has⟩, rfl, by simp, by omega, HP2, HM, HPR3, ⟨HW5.out.drop⟩⟩, by simp [intOf]; omega⟩
                  · have g3 : decide (x ≤ mx - (pg : Int)) = false := decide_eq_false c6
                    obtain ⟨b2, hb2⟩ : ∃ b2, b2 = m.b := ⟨_, rfl⟩
                    have hgr : mGrow m pg x = none := by have h1 := mGrow_may m pg x; rw [HM.out.1, HM.out.2] at h1; unfold mGrow at h1 ⊢; split; rename_i hc; rw [if_pos hc] at h1; simp at h1; omega; exact rfl
                    have HRES := Aside0.mk (show (if (mGrow m pg x).isSome then (pg : Int) else -1) = -1 by rw [hgr]; rfl)
                    have HB2 := Aside0.mk (show (mGrow m pg x).getD m.b = b2 by rw [hgr, hb2]; rfl)
                    obtain ⟨pg2, hpg2⟩ : ∃ pg2 : Nat, (pg : Int) = (pg2 : Int) := ⟨pg, rfl⟩
                    obtain rfl : pg = pg2 := by omega
                    have HP2 := Aside0.mk (show Paged ⟨b2, m.lo, m.hi, m.has⟩ pg from by rw [hb2]; exact HP.out)
                    have HPR3 := Aside0.mk (show r = true → b2.take b.length = b ∧ b.length ≤ b2.length from fun h => by rw [hb2]; exact HPR2.out h)
                    clear hb2 hgr hpg2
                    have dm : (-1 == (pg : Int)) = false := beq_eq_false_iff_ne.2 (by omega)
                    have hp24 : pg ≤ 4 := HP2.out.le4
                    have HDV := Aside0.mk (show (b2.length : Int) / 65536 = (pg : Int) by have h : b2.length = 65536 * pg := HP2.out.len; omega)
                    obtain ⟨NN, hNN⟩ : ∃ NN : Nat, (65536 : Int) * (pg : Int) = (NN : Int) := ⟨65536 * pg, by omega⟩
                    have hl2 : b2.length = NN := by have h : b2.length = 65536 * pg := HP2.out.len; omega
                    have HFT := Aside0.mk (show mFits b2.length NN 0 1 = false by cases h : mFits b2.length NN 0 1 with | false => rfl | true => have := (mFits_iff.1 h).2.2.2; omega)
                    have hNNr : NN ≤ 262144 := by omega
                    obtain ⟨at_, hat⟩ : ∃ at_ : Int, (NN : Int) - 1 = at_ := ⟨_, rfl⟩
                    obtain ⟨ls, hls⟩ : ∃ ls, mBytes b2 at_ 1 = ls := ⟨_, rfl⟩
                    have hls1 : 0 < pg → ls.length = 1 := fun hp => by rw [← hls, ← hat, show (NN : Int) - 1 = ((NN - 1 : Nat) : Int) by omega, show (1 : Int) = ((1 : Nat) : Int) from rfl, mBytes_seg (by omega), seg_length (by omega)]
                    have HBY := Aside0.mk hls
                    clear hls
                    clear hl2
                    go_wp2
                    refine rg_start (n := 31) (S := fun w' => SB w w' [MO p m, Box w.heap.size #[.int .i64 lo, .int .i64 mx, .bool true] 29]) (bm 31 0) (by kernel_rfl) rfl (by kernel_rfl) (HW.out.drew) (fun hHeld => ?_)
                    refine rg_take (i := 0) (N := some 68) (v := ?_) (a' := ?_) (bm 31 1) rfl rfl (by kernel_rfl) (fun _ _ _ h => h) hHeld (Or.inl ⟨by rfl, ?_⟩) ?_ ?_
                    rotate_left
                    · intro w' hw'
                      have hbx := SB.boxAt w.heap.size 29 hw'
                      have s0 := blk_cell hbx 0
                      have s1 := blk_cell hbx 1
                      have s2 := blk_cell hbx 2
                      have hcell := HCELL.out w' hw'.bel
                      go_simp
                      with_reducible rfl
                    rotate_left
                    · simp only [Act.put, List.setIfInBounds_toArray, List.set_cons_zero, List.set_cons_succ]
                      rfl
                    refine rg_take (i := 1) (N := some 69) (v := ?_) (a' := ?_) (bm 31 3) rfl rfl (by kernel_rfl) (fun _ _ _ h => h) hHeld (Or.inl ⟨by rfl, ?_⟩) ?_ ?_
                    rotate_left
                    · intro w' hw'
                      have hbx := SB.boxAt w.heap.size 29 hw'
                      have s0 := blk_cell hbx 0
                      have s1 := blk_cell hbx 1
                      have s2 := blk_cell hbx 2
                      have hcell := HCELL.out w' hw'.bel
                      go_simp
                      with_reducible rfl
                    rotate_left
                    · simp only [Act.put, List.setIfInBounds_toArray, List.set_cons_zero, List.set_cons_succ]
                      rfl
                    refine rg_take (i := 2) (N := some 70) (v := ?_) (a' := ?_) (bm 31 7) rfl rfl (by kernel_rfl) (fun _ _ _ h => h) hHeld (Or.inl ⟨by rfl, ?_⟩) ?_ ?_
                    rotate_left
                    · intro w' hw'
                      have hbx := SB.boxAt w.heap.size 29 hw'
                      have s0 := blk_cell hbx 0
                      have s1 := blk_cell hbx 1
                      have s2 := blk_cell hbx 2
                      have hcell := HCELL.out w' hw'.bel
                      go_simp
                      with_reducible rfl
                    rotate_left
                    · simp only [Act.put, List.setIfInBounds_toArray, List.set_cons_zero, List.set_cons_succ]
                      rfl
                    refine rg_take (i := 3) (N := some 71) (v := ?_) (a' := ?_) (bm 31 15) rfl rfl (by kernel_rfl) (fun _ _ _ h => h) hHeld (Or.inl ⟨by rfl, ?_⟩) ?_ ?_
                    rotate_left
                    · intro w' hw'
                      have hbx := SB.boxAt w.heap.size 29 hw'
                      have s0 := blk_cell hbx 0
                      have s1 := blk_cell hbx 1
                      have s2 := blk_cell hbx 2
                      have hcell := HCELL.out w' hw'.bel
                      go_simp
                      with_reducible rfl
                    rotate_left
                    · simp only [Act.put, List.setIfInBounds_toArray, List.set_cons_zero, List.set_cons_succ]
                      rfl
                    refine rg_take (i := 4) (N := some 72) (v := ?_) (a' := ?_) (bm 31 31) rfl rfl (by kernel_rfl) (fun _ _ _ h => h) hHeld (Or.inl ⟨by rfl, ?_⟩) ?_ ?_
                    rotate_left
                    · intro w' hw'
                      have hbx := SB.boxAt w.heap.size 29 hw'
                      have s0 := blk_cell hbx 0
                      have s1 := blk_cell hbx 1
                      have s2 := blk_cell hbx 2
                      have hcell := HCELL.out w' hw'.bel
                      go_simp
                      with_reducible rfl
                    rotate_left
                    · simp only [Act.put, List.setIfInBounds_toArray, List.set_cons_zero, List.set_cons_succ]
                      rfl
                    refine rg_take (i := 5) (N := some 73) (v := ?_) (a' := ?_) (bm 31 63) rfl rfl (by kernel_rfl) (fun _ _ _ h => h) hHeld (Or.inl ⟨by rfl, ?_⟩) ?_ ?_
                    rotate_left
                    · intro w' hw'
                      have hbx := SB.boxAt w.heap.size 29 hw'
                      have s0 := blk_cell hbx 0
                      have s1 := blk_cell hbx 1
                      have s2 := blk_cell hbx 2
                      have hcell := HCELL.out w' hw'.bel
                      go_simp
                      with_reducible rfl
                    rotate_left
                    · simp only [Act.put, List.setIfInBounds_toArray, List.set_cons_zero, List.set_cons_succ]
                      rfl
                    refine rg_take (i := 6) (N := some 74) (v := ?_) (a' := ?_) (bm 31 127) rfl rfl (by kernel_rfl) (fun _ _ _ h => h) hHeld (Or.inl ⟨by rfl, ?_⟩) ?_ ?_
                    rotate_left
                    · intro w' hw'
                      have hbx := SB.boxAt w.heap.size 29 hw'
                      have s0 := blk_cell hbx 0
                      have s1 := blk_cell hbx 1
                      have s2 := blk_cell hbx 2
                      have hcell := HCELL.out w' hw'.bel
                      go_simp
                      with_reducible rfl
                    rotate_left
                    · simp only [Act.put, List.setIfInBounds_toArray, List.set_cons_zero, List.set_cons_succ]
                      rfl
                    refine rg_take (i := 7) (N := some 75) (v := ?_) (a' := ?_) (bm 31 255) rfl rfl (by kernel_rfl) (fun _ _ _ h => h) hHeld (Or.inl ⟨by rfl, ?_⟩) ?_ ?_
                    rotate_left
                    · intro w' hw'
                      have hbx := SB.boxAt w.heap.size 29 hw'
                      have s0 := blk_cell hbx 0
                      have s1 := blk_cell hbx 1
                      have s2 := blk_cell hbx 2
                      have hcell := HCELL.out w' hw'.bel
                      go_simp
                      with_reducible rfl
                    rotate_left
                    · simp only [Act.put, List.setIfInBounds_toArray, List.set_cons_zero, List.set_cons_succ]
                      rfl
                    refine rg_take (i := 8) (N := some 76) (v := ?_) (a' := ?_) (bm 31 511) rfl rfl (by kernel_rfl) (fun _ _ _ h => h) hHeld (Or.inl ⟨by rfl, ?_⟩) ?_ ?_
                    rotate_left
                    · intro w' hw'
                      have hbx := SB.boxAt w.heap.size 29 hw'
                      have s0 := blk_cell hbx 0
                      have s1 := blk_cell hbx 1
                      have s2 := blk_cell hbx 2
                      have hcell := HCELL.out w' hw'.bel
                      go_simp
                      with_reducible rfl
                    rotate_left
                    · simp only [Act.put, List.setIfInBounds_toArray, List.set_cons_zero, List.set_cons_succ]
                      rfl
                    refine rg_take (i := 9) (N := some 77) (v := ?_) (a' := ?_) (bm 31 1023) rfl rfl (by kernel_rfl) (fun _ _ _ h => h) hHeld (Or.inl ⟨by rfl, ?_⟩) ?_ ?_
                    rotate_left
                    · intro w' hw'
                      have hbx := SB.boxAt w.heap.size 29 hw'
                      have s0 := blk_cell hbx 0
                      have s1 := blk_cell hbx 1
                      have s2 := blk_cell hbx 2
                      have hcell := HCELL.out w' hw'.bel
                      go_simp
                      with_reducible rfl
                    rotate_left
                    · simp only [Act.put, List.setIfInBounds_toArray, List.set_cons_zero, List.set_cons_succ]
                      rfl
                    refine rg_take (i := 10) (N := some 78) (v := ?_) (a' := ?_) (bm 31 2047) rfl rfl (by kernel_rfl) (fun _ _ _ h => h) hHeld (Or.inl ⟨by rfl, ?_⟩) ?_ ?_
                    rotate_left
                    · intro w' hw'
                      have hbx := SB.boxAt w.heap.size 29 hw'
                      have s0 := blk_cell hbx 0
                      have s1 := blk_cell hbx 1
                      have s2 := blk_cell hbx 2
                      have hcell := HCELL.out w' hw'.bel
                      go_simp
                      with_reducible rfl
                    rotate_left
                    · simp only [Act.put, List.setIfInBounds_toArray, List.set_cons_zero, List.set_cons_succ]
                      rfl
                    refine rg_take (i := 11) (N := some 79) (v := ?_) (a' := ?_) (bm 31 4095) rfl rfl (by kernel_rfl) (fun _ _ _ h => h) hHeld (Or.inl ⟨by rfl, ?_⟩) ?_ ?_
                    rotate_left
                    · intro w' hw'
                      have hbx := SB.boxAt w.heap.size 29 hw'
                      have s0 := blk_cell hbx 0
                      have s1 := blk_cell hbx 1
                      have s2 := blk_cell hbx 2
                      have hcell := HCELL.out w' hw'.bel
                      go_simp
                      with_reducible rfl
                    rotate_left
                    · simp only [Act.put, List.setIfInBounds_toArray, List.set_cons_zero, List.set_cons_succ]
                      rfl
                    refine rg_take (i := 12) (N := some 80) (v := ?_) (a' := ?_) (bm 31 8191) rfl rfl (by kernel_rfl) (fun _ _ _ h => h) hHeld (Or.inl ⟨by rfl, ?_⟩) ?_ ?_
                    rotate_left
                    · intro w' hw'
                      have hbx := SB.boxAt w.heap.size 29 hw'
                      have s0 := blk_cell hbx 0
                      have s1 := blk_cell hbx 1
                      have s2 := blk_cell hbx 2
                      have hcell := HCELL.out w' hw'.bel
                      go_simp
                      with_reducible rfl
                    rotate_left
                    · simp only [Act.put, List.setIfInBounds_toArray, List.set_cons_zero, List.set_cons_succ]
                      rfl
                    refine rg_take (i := 13) (N := some 81) (v := ?_) (a' := ?_) (bm 31 16383) rfl rfl (by kernel_rfl) (fun _ _ _ h => h) hHeld (Or.inl ⟨by rfl, ?_⟩) ?_ ?_
                    rotate_left
                    · intro w' hw'
                      have hbx := SB.boxAt w.heap.size 29 hw'
                      have s0 := blk_cell hbx 0
                      have s1 := blk_cell hbx 1
                      have s2 := blk_cell hbx 2
                      have hcell := HCELL.out w' hw'.bel
                      go_simp
                      with_reducible rfl
                    rotate_left
                    · simp only [Act.put, List.setIfInBounds_toArray, List.set_cons_zero, List.set_cons_succ]
                      rfl
                    refine rg_take (i := 14) (N := some 82) (v := ?_) (a' := ?_) (bm 31 32767) rfl rfl (by kernel_rfl) (fun _ _ _ h => h) hHeld (Or.inl ⟨by rfl, ?_⟩) ?_ ?_
                    rotate_left
                    · intro w' hw'
                      have hbx := SB.boxAt w.heap.size 29 hw'
                      have s0 := blk_cell hbx 0
                      have s1 := blk_cell hbx 1
                      have s2 := blk_cell hbx 2
                      have hcell := HCELL.out w' hw'.bel
                      go_simp
                      with_reducible rfl
                    rotate_left
                    · simp only [Act.put, List.setIfInBounds_toArray, List.set_cons_zero, List.set_cons_succ]
                      rfl
                    refine rg_take (i := 15) (N := some 83) (v := ?_) (a' := ?_) (bm 31 65535) rfl rfl (by kernel_rfl) (fun _ _ _ h => h) hHeld (Or.inl ⟨by rfl, ?_⟩) ?_ ?_
                    rotate_left
                    · intro w' hw'
                      have hbx := SB.boxAt w.heap.size 29 hw'
                      have s0 := blk_cell hbx 0
                      have s1 := blk_cell hbx 1
                      have s2 := blk_cell hbx 2
                      have hcell := HCELL.out w' hw'.bel
                      go_simp
                      with_reducible rfl
                    rotate_left
                    · simp only [Act.put, List.setIfInBounds_toArray, List.set_cons_zero, List.set_cons_succ]
                      rfl
                    refine rg_take (i := 16) (N := some 84) (v := ?_) (a' := ?_) (bm 31 131071) rfl rfl (by kernel_rfl) (fun _ _ _ h => h) hHeld (Or.inl ⟨by rfl, ?_⟩) ?_ ?_
                    rotate_left
                    · intro w' hw'
                      have hbx := SB.boxAt w.heap.size 29 hw'
                      have s0 := blk_cell hbx 0
                      have s1 := blk_cell hbx 1
                      have s2 := blk_cell hbx 2
                      have hcell := HCELL.out w' hw'.bel
                      go_simp
                      with_reducible rfl
                    rotate_left
                    · simp only [Act.put, List.setIfInBounds_toArray, List.set_cons_zero, List.set_cons_succ]
                      rfl
                    refine rg_take (i := 17) (N := some 85) (v := ?_) (a' := ?_) (bm 31 262143) rfl rfl (by kernel_rfl) (fun _ _ _ h => h) hHeld (Or.inl ⟨by rfl, ?_⟩) ?_ ?_
                    rotate_left
                    · intro w' hw'
                      have hbx := SB.boxAt w.heap.size 29 hw'
                      have s0 := blk_cell hbx 0
                      have s1 := blk_cell hbx 1
                      have s2 := blk_cell hbx 2
                      have hcell := HCELL.out w' hw'.bel
                      go_simp
                      with_reducible rfl
                    rotate_left
                    · simp only [Act.put, List.setIfInBounds_toArray, List.set_cons_zero, List.set_cons_succ]
                      rfl
                    refine rg_take (i := 18) (N := some 86) (v := ?_) (a' := ?_) (bm 31 524287) rfl rfl (by kernel_rfl) (fun _ _ _ h => h) hHeld (Or.inl ⟨by rfl, ?_⟩) ?_ ?_
                    rotate_left
                    · intro w' hw'
                      have hbx := SB.boxAt w.heap.size 29 hw'
                      have s0 := blk_cell hbx 0
                      have s1 := blk_cell hbx 1
                      have s2 := blk_cell hbx 2
                      have hcell := HCELL.out w' hw'.bel
                      go_simp
                      with_reducible rfl
                    rotate_left
                    · simp only [Act.put, List.setIfInBounds_toArray, List.set_cons_zero, List.set_cons_succ]
                      rfl
                    refine rg_take (i := 19) (N := some 87) (v := ?_) (a' := ?_) (bm 31 1048575) rfl rfl (by kernel_rfl) (fun _ _ _ h => h) hHeld (Or.inl ⟨by rfl, ?_⟩) ?_ ?_
                    rotate_left
                    · intro w' hw'
                      have hbx := SB.boxAt w.heap.size 29 hw'
                      have s0 := blk_cell hbx 0
                      have s1 := blk_cell hbx 1
                      have s2 := blk_cell hbx 2
                      have hcell := HCELL.out w' hw'.bel
                      go_simp
                      with_reducible rfl
                    rotate_left
                    · simp only [Act.put, List.setIfInBounds_toArray, List.set_cons_zero, List.set_cons_succ]
                      rfl
                    refine rg_take (i := 20) (N := some 88) (v := ?_) (a' := ?_) (bm 31 2097151) rfl rfl (by kernel_rfl) (fun _ _ _ h => h) hHeld (Or.inl ⟨by rfl, ?_⟩) ?_ ?_
                    rotate_left
                    · intro w' hw'
                      have hbx := SB.boxAt w.heap.size 29 hw'
                      have s0 := blk_cell hbx 0
                      have s1 := blk_cell hbx 1
                      have s2 := blk_cell hbx 2
                      have hcell := HCELL.out w' hw'.bel
                      go_simp
                      with_reducible rfl
                    rotate_left
                    · simp only [Act.put, List.setIfInBounds_toArray, List.set_cons_zero, List.set_cons_succ]
                      rfl
                    refine rg_take (i := 21) (N := some 89) (v := ?_) (a' := ?_) (bm 31 4194303) rfl rfl (by kernel_rfl) (fun _ _ _ h => h) hHeld (Or.inl ⟨by rfl, ?_⟩) ?_ ?_
                    rotate_left
                    · intro w' hw'
                      have hbx := SB.boxAt w.heap.size 29 hw'
                      have s0 := blk_cell hbx 0
                      have s1 := blk_cell hbx 1
                      have s2 := blk_cell hbx 2
                      have hcell := HCELL.out w' hw'.bel
                      go_simp
                      with_reducible rfl
                    rotate_left
                    · simp only [Act.put, List.setIfInBounds_toArray, List.set_cons_zero, List.set_cons_succ]
                      rfl
                    refine rg_take (i := 22) (N := some 90) (v := ?_) (a' := ?_) (bm 31 8388607) rfl rfl (by kernel_rfl) (fun _ _ _ h => h) hHeld (Or.inl ⟨by rfl, ?_⟩) ?_ ?_
                    rotate_left
                    · intro w' hw'
                      have hbx := SB.boxAt w.heap.size 29 hw'
                      have s0 := blk_cell hbx 0
                      have s1 := blk_cell hbx 1
                      have s2 := blk_cell hbx 2
                      have hcell := HCELL.out w' hw'.bel
                      go_simp
                      with_reducible rfl
                    rotate_left
                    · simp only [Act.put, List.setIfInBounds_toArray, List.set_cons_zero, List.set_cons_succ]
                      rfl
                    refine rg_take (i := 23) (N := some 91) (v := ?_) (a' := ?_) (bm 31 16777215) rfl rfl (by kernel_rfl) (fun _ _ _ h => h) hHeld (Or.inl ⟨by rfl, ?_⟩) ?_ ?_
                    rotate_left
                    · intro w' hw'
                      have hbx := SB.boxAt w.heap.size 29 hw'
                      have s0 := blk_cell hbx 0
                      have s1 := blk_cell hbx 1
                      have s2 := blk_cell hbx 2
                      have hcell := HCELL.out w' hw'.bel
                      go_simp
                      with_reducible rfl
                    rotate_left
                    · simp only [Act.put, List.setIfInBounds_toArray, List.set_cons_zero, List.set_cons_succ]
                      rfl
                    refine rg_take (i := 24) (N := some 92) (v := ?_) (a' := ?_) (bm 31 33554431) rfl rfl (by kernel_rfl) (fun _ _ _ h => h) hHeld (Or.inl ⟨by rfl, ?_⟩) ?_ ?_
                    rotate_left
                    · intro w' hw'
                      have hbx := SB.boxAt w.heap.size 29 hw'
                      have s0 := blk_cell hbx 0
                      have s1 := blk_cell hbx 1
                      have s2 := blk_cell hbx 2
                      have hcell := HCELL.out w' hw'.bel
                      go_simp
                      with_reducible rfl
                    rotate_left
                    · simp only [Act.put, List.setIfInBounds_toArray, List.set_cons_zero, List.set_cons_succ]
                      rfl
                    refine rg_take (i := 25) (N := some 93) (v := ?_) (a' := ?_) (bm 31 67108863) rfl rfl (by kernel_rfl) (fun _ _ _ h => h) hHeld (Or.inl ⟨by rfl, ?_⟩) ?_ ?_
                    rotate_left
                    · intro w' hw'
                      have hbx := SB.boxAt w.heap.size 29 hw'
                      have s0 := blk_cell hbx 0
                      have s1 := blk_cell hbx 1
                      have s2 := blk_cell hbx 2
                      have hcell := HCELL.out w' hw'.bel
                      go_simp
                      with_reducible rfl
                    rotate_left
                    · simp only [Act.put, List.setIfInBounds_toArray, List.set_cons_zero, List.set_cons_succ]
                      rfl
                    refine rg_take (i := 26) (N := some 94) (v := ?_) (a' := ?_) (bm 31 134217727) rfl rfl (by kernel_rfl) (fun _ _ _ h => h) hHeld (Or.inl ⟨by rfl, ?_⟩) ?_ ?_
                    rotate_left
                    · intro w' hw'
                      have hbx := SB.boxAt w.heap.size 29 hw'
                      have s0 := blk_cell hbx 0
                      have s1 := blk_cell hbx 1
                      have s2 := blk_cell hbx 2
                      have hcell := HCELL.out w' hw'.bel
                      go_simp
                      with_reducible rfl
                    rotate_left
                    · simp only [Act.put, List.setIfInBounds_toArray, List.set_cons_zero, List.set_cons_succ]
                      rfl
                    refine rg_take (i := 27) (N := some 95) (v := ?_) (a' := ?_) (bm 31 268435455) rfl rfl (by kernel_rfl) (fun _ _ _ h => h) hHeld (Or.inl ⟨by rfl, ?_⟩) ?_ ?_
                    rotate_left
                    · intro w' hw'
                      have hbx := SB.boxAt w.heap.size 29 hw'
                      have s0 := blk_cell hbx 0
                      have s1 := blk_cell hbx 1
                      have s2 := blk_cell hbx 2
                      have hcell := HCELL.out w' hw'.bel
                      go_simp
                      with_reducible rfl
                    rotate_left
                    · simp only [Act.put, List.setIfInBounds_toArray, List.set_cons_zero, List.set_cons_succ]
                      rfl
                    refine rg_take (i := 28) (N := some 96) (v := ?_) (a' := ?_) (bm 31 536870911) rfl rfl (by kernel_rfl) (fun _ _ _ h => h) hHeld (Or.inl ⟨by rfl, ?_⟩) ?_ ?_
                    rotate_left
                    · intro w' hw'
                      have hbx := SB.boxAt w.heap.size 29 hw'
                      have s0 := blk_cell hbx 0
                      have s1 := blk_cell hbx 1
                      have s2 := blk_cell hbx 2
                      have hcell := HCELL.out w' hw'.bel
                      go_simp
                      with_reducible rfl
                    rotate_left
                    · simp only [Act.put, List.setIfInBounds_toArray, List.set_cons_zero, List.set_cons_succ]
                      rfl
                    refine rg_take (i := 29) (N := some 97) (v := ?_) (a' := ?_) (bm 31 1073741823) rfl rfl (by kernel_rfl) (fun _ _ _ h => h) hHeld (Or.inl ⟨by rfl, ?_⟩) ?_ ?_
                    rotate_left
                    · intro w' hw'
                      have hbx := SB.boxAt w.heap.size 29 hw'
                      have s0 := blk_cell hbx 0
                      have s1 := blk_cell hbx 1
                      have s2 := blk_cell hbx 2
                      have hcell := HCELL.out w' hw'.bel
                      go_simp
                      with_reducible rfl
                    rotate_left
                    · simp only [Act.put, List.setIfInBounds_toArray, List.set_cons_zero, List.set_cons_succ]
                      rfl
                    refine rg_take (i := 30) (N := some 14) (v := ?_) (a' := ?_) (bm 31 2147483647) rfl rfl (by kernel_rfl) (fun _ _ _ h => h) hHeld (Or.inl ⟨by rfl, ?_⟩) ?_ ?_
                    rotate_left
                    · intro w' hw'
                      have hbx := SB.boxAt w.heap.size 29 hw'
                      have s0 := blk_cell hbx 0
                      have s1 := blk_cell hbx 1
                      have s2 := blk_cell hbx 2
                      have hcell := HCELL.out w' hw'.bel
                      go_simp
                      with_reducible rfl
                    rotate_left
                    · simp only [Act.put, List.setIfInBounds_toArray, List.set_cons_zero, List.set_cons_succ]
                      rfl
                    refine rg_done (by kernel_rfl) ?_
                    have hcell := HCELL.out wr.drew HW.out.drew.bel
                    go_wp2_with (first
                      | (go_at_call 20; (with_reducible refine (memGrowH (p := p) HW.out.drew HP.out _ hxr HRES.out HB2.out).mono ?_); rintro e wa ⟨rfl, hs⟩; have HW2 := Aside0.mk hs; have hcell2 := HCELL.out wa HW2.out.bel; clear hs)
                      | (go_at_call 16; (with_reducible refine (memBytesH (p := p) HW2.out HP2.out.good at_ 1 (by omega) (by decide) HBY.out).mono ?_); rintro e wb ⟨v, rfl, hs⟩; have HW3 := Aside0.mk hs; clear hs; obtain ⟨Av, cv, rfl, _, _⟩ := HW3.out.reads)
                      | (go_at_call 19; (with_reducible refine (memPagesH (p := p) HW3.out HP2.out.good HDV.out).mono ?_); rintro e wc ⟨rfl, hs⟩; have HW4 := Aside0.mk hs; clear hs)
                      | (go_at_call 21; (with_reducible refine (memFitsH (p := p) HW4.out HP2.out.good NN 0 1 (by omega) (by decide) (by decide) HFT.out).mono ?_); rintro e wd ⟨rfl, hs⟩; have HW5 := Aside0.mk hs; clear hs))
                    all_goals exact ⟨⟨i + 1, pg, ⟨b2, m.lo, m.hi, m.has⟩, rfl, by simp, by omega, HP2, HM, HPR3, ⟨HW5.out.drop⟩⟩, by simp [intOf]; omega⟩
              · have g2 : decide (x ≤ 4 - (pg : Int)) = false := decide_eq_false c4
                obtain ⟨b2, hb2⟩ : ∃ b2, b2 = m.b := ⟨_, rfl⟩
                have hgr : mGrow m pg x = none := by have h1 := mGrow_may m pg x; rw [HM.out.1, HM.out.2] at h1; unfold mGrow at h1 ⊢; split; rename_i hc; rw [if_pos hc] at h1; simp at h1; omega; exact rfl
                have HRES := Aside0.mk (show (if (mGrow m pg x).isSome then (pg : Int) else -1) = -1 by rw [hgr]; rfl)
                have HB2 := Aside0.mk (show (mGrow m pg x).getD m.b = b2 by rw [hgr, hb2]; rfl)
                obtain ⟨pg2, hpg2⟩ : ∃ pg2 : Nat, (pg : Int) = (pg2 : Int) := ⟨pg, rfl⟩
                obtain rfl : pg = pg2 := by omega
                have HP2 := Aside0.mk (show Paged ⟨b2, m.lo, m.hi, m.has⟩ pg from by rw [hb2]; exact HP.out)
                have HPR3 := Aside0.mk (show r = true → b2.take b.length = b ∧ b.length ≤ b2.length from fun h => by rw [hb2]; exact HPR2.out h)
                clear hb2 hgr hpg2
                have dm : (-1 == (pg : Int)) = false := beq_eq_false_iff_ne.2 (by omega)
                have hp24 : pg ≤ 4 := HP2.out.le4
                have HDV := Aside0.mk (show (b2.length : Int) / 65536 = (pg : Int) by have h : b2.length = 65536 * pg := HP2.out.len; omega)
                obtain ⟨NN, hNN⟩ : ∃ NN : Nat, (65536 : Int) * (pg : Int) = (NN : Int) := ⟨65536 * pg, by omega⟩
                have hl2 : b2.length = NN := by have h : b2.length = 65536 * pg := HP2.out.len; omega
                have HFT := Aside0.mk (show mFits b2.length NN 0 1 = false by cases h : mFits b2.length NN 0 1 with | false => rfl | true => have := (mFits_iff.1 h).2.2.2; omega)
                have hNNr : NN ≤ 262144 := by omega
                obtain ⟨at_, hat⟩ : ∃ at_ : Int, (NN : Int) - 1 = at_ := ⟨_, rfl⟩
                obtain ⟨ls, hls⟩ : ∃ ls, mBytes b2 at_ 1 = ls := ⟨_, rfl⟩
                have hls1 : 0 < pg → ls.length = 1 := fun hp => by rw [← hls, ← hat, show (NN : Int) - 1 = ((NN - 1 : Nat) : Int) by omega, show (1 : Int) = ((1 : Nat) : Int) from rfl, mBytes_seg (by omega), seg_length (by omega)]
                have HBY := Aside0.mk hls
                clear hls
                clear hl2
                go_wp2
                refine rg_start (n := 31) (S := fun w' => SB w w' [MO p m, Box w.heap.size #[.int .i64 lo, .int .i64 mx, .bool has] 29]) (bm 31 0) (by kernel_rfl) rfl (by kernel_rfl) (HW.out.drew) (fun hHeld => ?_)
                refine rg_take (i := 0) (N := some 68) (v := ?_) (a' := ?_) (bm 31 1) rfl rfl (by kernel_rfl) (fun _ _ _ h => h) hHeld (Or.inl ⟨by rfl, ?_⟩) ?_ ?_
                rotate_left
                · intro w' hw'
                  have hbx := SB.boxAt w.heap.size 29 hw'
                  have s0 := blk_cell hbx 0
                  have s1 := blk_cell hbx 1
                  have s2 := blk_cell hbx 2
                  have hcell := HCELL.out w' hw'.bel
                  go_simp
                  with_reducible rfl
                rotate_left
                · simp only [Act.put, List.setIfInBounds_toArray, List.set_cons_zero, List.set_cons_succ]
                  rfl
                refine rg_take (i := 1) (N := some 69) (v := ?_) (a' := ?_) (bm 31 3) rfl rfl (by kernel_rfl) (fun _ _ _ h => h) hHeld (Or.inl ⟨by rfl, ?_⟩) ?_ ?_
                rotate_left
                · intro w' hw'
                  have hbx := SB.boxAt w.heap.size 29 hw'
                  have s0 := blk_cell hbx 0
                  have s1 := blk_cell hbx 1
                  have s2 := blk_cell hbx 2
                  have hcell := HCELL.out w' hw'.bel
                  go_simp
                  with_reducible rfl
                rotate_left
                · simp only [Act.put, List.setIfInBounds_toArray, List.set_cons_zero, List.set_cons_succ]
                  rfl
                refine rg_take (i := 2) (N := some 70) (v := ?_) (a' := ?_) (bm 31 7) rfl rfl (by kernel_rfl) (fun _ _ _ h => h) hHeld (Or.inl ⟨by rfl, ?_⟩) ?_ ?_
                rotate_left
                · intro w' hw'
                  have hbx := SB.boxAt w.heap.size 29 hw'
                  have s0 := blk_cell hbx 0
                  have s1 := blk_cell hbx 1
                  have s2 := blk_cell hbx 2
                  have hcell := HCELL.out w' hw'.bel
                  go_simp
                  with_reducible rfl
                rotate_left
                · simp only [Act.put, List.setIfInBounds_toArray, List.set_cons_zero, List.set_cons_succ]
                  rfl
                refine rg_take (i := 3) (N := some 71) (v := ?_) (a' := ?_) (bm 31 15) rfl rfl (by kernel_rfl) (fun _ _ _ h => h) hHeld (Or.inl ⟨by rfl, ?_⟩) ?_ ?_
                rotate_left
                · intro w' hw'
                  have hbx := SB.boxAt w.heap.size 29 hw'
                  have s0 := blk_cell hbx 0
                  have s1 := blk_cell hbx 1
                  have s2 := blk_cell hbx 2
                  have hcell := HCELL.out w' hw'.bel
                  go_simp
                  with_reducible rfl
                rotate_left
                · simp only [Act.put, List.setIfInBounds_toArray, List.set_cons_zero, List.set_cons_succ]
                  rfl
                refine rg_take (i := 4) (N := some 72) (v := ?_) (a' := ?_) (bm 31 31) rfl rfl (by kernel_rfl) (fun _ _ _ h => h) hHeld (Or.inl ⟨by rfl, ?_⟩) ?_ ?_
                rotate_left
                · intro w' hw'
                  have hbx := SB.boxAt w.heap.size 29 hw'
                  have s0 := blk_cell hbx 0
                  have s1 := blk_cell hbx 1
                  have s2 := blk_cell hbx 2
                  have hcell := HCELL.out w' hw'.bel
                  go_simp
                  with_reducible rfl
                rotate_left
                · simp only [Act.put, List.setIfInBounds_toArray, List.set_cons_zero, List.set_cons_succ]
                  rfl
                refine rg_take (i := 5) (N := some 73) (v := ?_) (a' := ?_) (bm 31 63) rfl rfl (by kernel_rfl) (fun _ _ _ h => h) hHeld (Or.inl ⟨by rfl, ?_⟩) ?_ ?_
                rotate_left
                · intro w' hw'
                  have hbx := SB.boxAt w.heap.size 29 hw'
                  have s0 := blk_cell hbx 0
                  have s1 := blk_cell hbx 1
                  have s2 := blk_cell hbx 2
                  have hcell := HCELL.out w' hw'.bel
                  go_simp
                  with_reducible rfl
                rotate_left
                · simp only [Act.put, List.setIfInBounds_toArray, List.set_cons_zero, List.set_cons_succ]
                  rfl
                refine rg_take (i := 6) (N := some 74) (v := ?_) (a' := ?_) (bm 31 127) rfl rfl (by kernel_rfl) (fun _ _ _ h => h) hHeld (Or.inl ⟨by rfl, ?_⟩) ?_ ?_
                rotate_left
                · intro w' hw'
                  have hbx := SB.boxAt w.heap.size 29 hw'
                  have s0 := blk_cell hbx 0
                  have s1 := blk_cell hbx 1
                  have s2 := blk_cell hbx 2
                  have hcell := HCELL.out w' hw'.bel
                  go_simp
                  with_reducible rfl
                rotate_left
                · simp only [Act.put, List.setIfInBounds_toArray, List.set_cons_zero, List.set_cons_succ]
                  rfl
                refine rg_take (i := 7) (N := some 75) (v := ?_) (a' := ?_) (bm 31 255) rfl rfl (by kernel_rfl) (fun _ _ _ h => h) hHeld (Or.inl ⟨by rfl, ?_⟩) ?_ ?_
                rotate_left
                · intro w' hw'
                  have hbx := SB.boxAt w.heap.size 29 hw'
                  have s0 := blk_cell hbx 0
                  have s1 := blk_cell hbx 1
                  have s2 := blk_cell hbx 2
                  have hcell := HCELL.out w' hw'.bel
                  go_simp
                  with_reducible rfl
                rotate_left
                · simp only [Act.put, List.setIfInBounds_toArray, List.set_cons_zero, List.set_cons_succ]
                  rfl
                refine rg_take (i := 8) (N := some 76) (v := ?_) (a' := ?_) (bm 31 511) rfl rfl (by kernel_rfl) (fun _ _ _ h => h) hHeld (Or.inl ⟨by rfl, ?_⟩) ?_ ?_
                rotate_left
                · intro w' hw'
                  have hbx := SB.boxAt w.heap.size 29 hw'
                  have s0 := blk_cell hbx 0
                  have s1 := blk_cell hbx 1
                  have s2 := blk_cell hbx 2
                  have hcell := HCELL.out w' hw'.bel
                  go_simp
                  with_reducible rfl
                rotate_left
                · simp only [Act.put, List.setIfInBounds_toArray, List.set_cons_zero, List.set_cons_succ]
                  rfl
                refine rg_take (i := 9) (N := some 77) (v := ?_) (a' := ?_) (bm 31 1023) rfl rfl (by kernel_rfl) (fun _ _ _ h => h) hHeld (Or.inl ⟨by rfl, ?_⟩) ?_ ?_
                rotate_left
                · intro w' hw'
                  have hbx := SB.boxAt w.heap.size 29 hw'
                  have s0 := blk_cell hbx 0
                  have s1 := blk_cell hbx 1
                  have s2 := blk_cell hbx 2
                  have hcell := HCELL.out w' hw'.bel
                  go_simp
                  with_reducible rfl
                rotate_left
                · simp only [Act.put, List.setIfInBounds_toArray, List.set_cons_zero, List.set_cons_succ]
                  rfl
                refine rg_take (i := 10) (N := some 78) (v := ?_) (a' := ?_) (bm 31 2047) rfl rfl (by kernel_rfl) (fun _ _ _ h => h) hHeld (Or.inl ⟨by rfl, ?_⟩) ?_ ?_
                rotate_left
                · intro w' hw'
                  have hbx := SB.boxAt w.heap.size 29 hw'
                  have s0 := blk_cell hbx 0
                  have s1 := blk_cell hbx 1
                  have s2 := blk_cell hbx 2
                  have hcell := HCELL.out w' hw'.bel
                  go_simp
                  with_reducible rfl
                rotate_left
                · simp only [Act.put, List.setIfInBounds_toArray, List.set_cons_zero, List.set_cons_succ]
                  rfl
                refine rg_take (i := 11) (N := some 79) (v := ?_) (a' := ?_) (bm 31 4095) rfl rfl (by kernel_rfl) (fun _ _ _ h => h) hHeld (Or.inl ⟨by rfl, ?_⟩) ?_ ?_
                rotate_left
                · intro w' hw'
                  have hbx := SB.boxAt w.heap.size 29 hw'
                  have s0 := blk_cell hbx 0
                  have s1 := blk_cell hbx 1
                  have s2 := blk_cell hbx 2
                  have hcell := HCELL.out w' hw'.bel
                  go_simp
                  with_reducible rfl
                rotate_left
                · simp only [Act.put, List.setIfInBounds_toArray, List.set_cons_zero, List.set_cons_succ]
                  rfl
                refine rg_take (i := 12) (N := some 80) (v := ?_) (a' := ?_) (bm 31 8191) rfl rfl (by kernel_rfl) (fun _ _ _ h => h) hHeld (Or.inl ⟨by rfl, ?_⟩) ?_ ?_
                rotate_left
                · intro w' hw'
                  have hbx := SB.boxAt w.heap.size 29 hw'
                  have s0 := blk_cell hbx 0
                  have s1 := blk_cell hbx 1
                  have s2 := blk_cell hbx 2
                  have hcell := HCELL.out w' hw'.bel
                  go_simp
                  with_reducible rfl
                rotate_left
                · simp only [Act.put, List.setIfInBounds_toArray, List.set_cons_zero, List.set_cons_succ]
                  rfl
                refine rg_take (i := 13) (N := some 81) (v := ?_) (a' := ?_) (bm 31 16383) rfl rfl (by kernel_rfl) (fun _ _ _ h => h) hHeld (Or.inl ⟨by rfl, ?_⟩) ?_ ?_
                rotate_left
                · intro w' hw'
                  have hbx := SB.boxAt w.heap.size 29 hw'
                  have s0 := blk_cell hbx 0
                  have s1 := blk_cell hbx 1
                  have s2 := blk_cell hbx 2
                  have hcell := HCELL.out w' hw'.bel
                  go_simp
                  with_reducible rfl
                rotate_left
                · simp only [Act.put, List.setIfInBounds_toArray, List.set_cons_zero, List.set_cons_succ]
                  rfl
                refine rg_take (i := 14) (N := some 82) (v := ?_) (a' := ?_) (bm 31 32767) rfl rfl (by kernel_rfl) (fun _ _ _ h => h) hHeld (Or.inl ⟨by rfl, ?_⟩) ?_ ?_
                rotate_left
                · intro w' hw'
                  have hbx := SB.boxAt w.heap.size 29 hw'
                  have s0 := blk_cell hbx 0
                  have s1 := blk_cell hbx 1
                  have s2 := blk_cell hbx 2
                  have hcell := HCELL.out w' hw'.bel
                  go_simp
                  with_reducible rfl
                rotate_left
                · simp only [Act.put, List.setIfInBounds_toArray, List.set_cons_zero, List.set_cons_succ]
                  rfl
                refine rg_take (i := 15) (N := some 83) (v := undef) (a' := ?_) (bm 31 65535) rfl rfl (by kernel_rfl) (fun _ _ _ h => h) hHeld (Or.inr ⟨by rfl, rfl⟩) ?_ ?_
                rotate_left
                · simp only [Act.put, List.setIfInBounds_toArray, List.set_cons_zero, List.set_cons_succ]
                  rfl
                refine rg_take (i := 16) (N := some 84) (v := undef) (a' := ?_) (bm 31 131071) rfl rfl (by kernel_rfl) (fun _ _ _ h => h) hHeld (Or.inr ⟨by rfl, rfl⟩) ?_ ?_
                rotate_left
                · simp only [Act.put, List.setIfInBounds_toArray, List.set_cons_zero, List.set_cons_succ]
                  rfl
                refine rg_take (i := 17) (N := some 85) (v := undef) (a' := ?_) (bm 31 262143) rfl rfl (by kernel_rfl) (fun _ _ _ h => h) hHeld (Or.inr ⟨by rfl, rfl⟩) ?_ ?_
                rotate_left
                · simp only [Act.put, List.setIfInBounds_toArray, List.set_cons_zero, List.set_cons_succ]
                  rfl
                refine rg_take (i := 18) (N := some 86) (v := undef) (a' := ?_) (bm 31 524287) rfl rfl (by kernel_rfl) (fun _ _ _ h => h) hHeld (Or.inr ⟨by rfl, rfl⟩) ?_ ?_
                rotate_left
                · simp only [Act.put, List.setIfInBounds_toArray, List.set_cons_zero, List.set_cons_succ]
                  rfl
                refine rg_take (i := 19) (N := some 87) (v := undef) (a' := ?_) (bm 31 1048575) rfl rfl (by kernel_rfl) (fun _ _ _ h => h) hHeld (Or.inr ⟨by rfl, rfl⟩) ?_ ?_
                rotate_left
                · simp only [Act.put, List.setIfInBounds_toArray, List.set_cons_zero, List.set_cons_succ]
                  rfl
                refine rg_take (i := 20) (N := some 88) (v := undef) (a' := ?_) (bm 31 2097151) rfl rfl (by kernel_rfl) (fun _ _ _ h => h) hHeld (Or.inr ⟨by rfl, rfl⟩) ?_ ?_
                rotate_left
                · simp only [Act.put, List.setIfInBounds_toArray, List.set_cons_zero, List.set_cons_succ]
                  rfl
                refine rg_take (i := 21) (N := some 89) (v := undef) (a' := ?_) (bm 31 4194303) rfl rfl (by kernel_rfl) (fun _ _ _ h => h) hHeld (Or.inr ⟨by rfl, rfl⟩) ?_ ?_
                rotate_left
                · simp only [Act.put, List.setIfInBounds_toArray, List.set_cons_zero, List.set_cons_succ]
                  rfl
                refine rg_take (i := 22) (N := some 90) (v := undef) (a' := ?_) (bm 31 8388607) rfl rfl (by kernel_rfl) (fun _ _ _ h => h) hHeld (Or.inr ⟨by rfl, rfl⟩) ?_ ?_
                rotate_left
                · simp only [Act.put, List.setIfInBounds_toArray, List.set_cons_zero, List.set_cons_succ]
                  rfl
                refine rg_take (i := 23) (N := some 91) (v := undef) (a' := ?_) (bm 31 16777215) rfl rfl (by kernel_rfl) (fun _ _ _ h => h) hHeld (Or.inr ⟨by rfl, rfl⟩) ?_ ?_
                rotate_left
                · simp only [Act.put, List.setIfInBounds_toArray, List.set_cons_zero, List.set_cons_succ]
                  rfl
                refine rg_take (i := 24) (N := some 92) (v := undef) (a' := ?_) (bm 31 33554431) rfl rfl (by kernel_rfl) (fun _ _ _ h => h) hHeld (Or.inr ⟨by rfl, rfl⟩) ?_ ?_
                rotate_left
                · simp only [Act.put, List.setIfInBounds_toArray, List.set_cons_zero, List.set_cons_succ]
                  rfl
                refine rg_take (i := 25) (N := some 93) (v := undef) (a' := ?_) (bm 31 67108863) rfl rfl (by kernel_rfl) (fun _ _ _ h => h) hHeld (Or.inr ⟨by rfl, rfl⟩) ?_ ?_
                rotate_left
                · simp only [Act.put, List.setIfInBounds_toArray, List.set_cons_zero, List.set_cons_succ]
                  rfl
                refine rg_take (i := 26) (N := some 94) (v := undef) (a' := ?_) (bm 31 134217727) rfl rfl (by kernel_rfl) (fun _ _ _ h => h) hHeld (Or.inr ⟨by rfl, rfl⟩) ?_ ?_
                rotate_left
                · simp only [Act.put, List.setIfInBounds_toArray, List.set_cons_zero, List.set_cons_succ]
                  rfl
                refine rg_take (i := 27) (N := some 95) (v := undef) (a' := ?_) (bm 31 268435455) rfl rfl (by kernel_rfl) (fun _ _ _ h => h) hHeld (Or.inr ⟨by rfl, rfl⟩) ?_ ?_
                rotate_left
                · simp only [Act.put, List.setIfInBounds_toArray, List.set_cons_zero, List.set_cons_succ]
                  rfl
                refine rg_take (i := 28) (N := some 96) (v := undef) (a' := ?_) (bm 31 536870911) rfl rfl (by kernel_rfl) (fun _ _ _ h => h) hHeld (Or.inr ⟨by rfl, rfl⟩) ?_ ?_
                rotate_left
                · simp only [Act.put, List.setIfInBounds_toArray, List.set_cons_zero, List.set_cons_succ]
                  rfl
                refine rg_take (i := 29) (N := some 97) (v := ?_) (a' := ?_) (bm 31 1073741823) rfl rfl (by kernel_rfl) (fun _ _ _ h => h) hHeld (Or.inl ⟨by rfl, ?_⟩) ?_ ?_
                rotate_left
                · intro w' hw'
                  have hbx := SB.boxAt w.heap.size 29 hw'
                  have s0 := blk_cell hbx 0
                  have s1 := blk_cell hbx 1
                  have s2 := blk_cell hbx 2
                  have hcell := HCELL.out w' hw'.bel
                  go_simp
                  with_reducible rfl
                rotate_left
                · simp only [Act.put, List.setIfInBounds_toArray, List.set_cons_zero, List.set_cons_succ]
                  rfl
                refine rg_take (i := 30) (N := some 14) (v := ?_) (a' := ?_) (bm 31 2147483647) rfl rfl (by kernel_rfl) (fun _ _ _ h => h) hHeld (Or.inl ⟨by rfl, ?_⟩) ?_ ?_
                rotate_left
                · intro w' hw'
                  have hbx := SB.boxAt w.heap.size 29 hw'
                  have s0 := blk_cell hbx 0
                  have s1 := blk_cell hbx 1
                  have s2 := blk_cell hbx 2
                  have hcell := HCELL.out w' hw'.bel
                  go_simp
                  with_reducible rfl
                rotate_left
                · simp only [Act.put, List.setIfInBounds_toArray, List.set_cons_zero, List.set_cons_succ]
                  rfl
                refine rg_done (by kernel_rfl) ?_
                have hcell := HCELL.out wr.drew HW.out.drew.bel
                go_wp2_with (first
                  | (go_at_call 20; (with_reducible refine (memGrowH (p := p) HW.out.drew HP.out _ hxr HRES.out HB2.out).mono ?_); rintro e wa ⟨rfl, hs⟩; have HW2 := Aside0.mk hs; have hcell2 := HCELL.out wa HW2.out.bel; clear hs)
                  | (go_at_call 16; (with_reducible refine (memBytesH (p := p) HW2.out HP2.out.good at_ 1 (by omega) (by decide) HBY.out).mono ?_); rintro e wb ⟨v, rfl, hs⟩; have HW3 := Aside0.mk hs; clear hs; obtain ⟨Av, cv, rfl, _, _⟩ := HW3.out.reads)
                  | (go_at_call 19; (with_reducible refine (memPagesH (p := p) HW3.out HP2.out.good HDV.out).mono ?_); rintro e wc ⟨rfl, hs⟩; have HW4 := Aside0.mk hs; clear hs)
                  | (go_at_call 21; (with_reducible refine (memFitsH (p := p) HW4.out HP2.out.good NN 0 1 (by omega) (by decide) (by decide) HFT.out).mono ?_); rintro e wd ⟨rfl, hs⟩; have HW5 := Aside0.mk hs; clear hs))
                all_goals exact ⟨⟨i + 1, pg, ⟨b2, m.lo, m.hi, m.has⟩, rfl, by simp, by omega, HP2, HM, HPR3, ⟨HW5.out.drop⟩⟩, by simp [intOf]; omega⟩
            · have g1 : decide (0 ≤ x) = false := decide_eq_false c3
              obtain ⟨b2, hb2⟩ : ∃ b2, b2 = m.b := ⟨_, rfl⟩
              have hgr : mGrow m pg x = none := by have h1 := mGrow_may m pg x; rw [HM.out.1, HM.out.2] at h1; unfold mGrow at h1 ⊢; split; rename_i hc; rw [if_pos hc] at h1; simp at h1; omega; exact rfl
              have HRES := Aside0.mk (show (if (mGrow m pg x).isSome then (pg : Int) else -1) = -1 by rw [hgr]; rfl)
              have HB2 := Aside0.mk (show (mGrow m pg x).getD m.b = b2 by rw [hgr, hb2]; rfl)
              obtain ⟨pg2, hpg2⟩ : ∃ pg2 : Nat, (pg : Int) = (pg2 : Int) := ⟨pg, rfl⟩
              obtain rfl : pg = pg2 := by omega
              have HP2 := Aside0.mk (show Paged ⟨b2, m.lo, m.hi, m.has⟩ pg from by rw [hb2]; exact HP.out)
              have HPR3 := Aside0.mk (show r = true → b2.take b.length = b ∧ b.length ≤ b2.length from fun h => by rw [hb2]; exact HPR2.out h)
              clear hb2 hgr hpg2
              have dm : (-1 == (pg : Int)) = false := beq_eq_false_iff_ne.2 (by omega)
              have hp24 : pg ≤ 4 := HP2.out.le4
              have HDV := Aside0.mk (show (b2.length : Int) / 65536 = (pg : Int) by have h : b2.length = 65536 * pg := HP2.out.len; omega)
              obtain ⟨NN, hNN⟩ : ∃ NN : Nat, (65536 : Int) * (pg : Int) = (NN : Int) := ⟨65536 * pg, by omega⟩
              have hl2 : b2.length = NN := by have h : b2.length = 65536 * pg := HP2.out.len; omega
              have HFT := Aside0.mk (show mFits b2.length NN 0 1 = false by cases h : mFits b2.length NN 0 1 with | false => rfl | true => have := (mFits_iff.1 h).2.2.2; omega)
              have hNNr : NN ≤ 262144 := by omega
              obtain ⟨at_, hat⟩ : ∃ at_ : Int, (NN : Int) - 1 = at_ := ⟨_, rfl⟩
              obtain ⟨ls, hls⟩ : ∃ ls, mBytes b2 at_ 1 = ls := ⟨_, rfl⟩
              have hls1 : 0 < pg → ls.length = 1 := fun hp => by rw [← hls, ← hat, show (NN : Int) - 1 = ((NN - 1 : Nat) : Int) by omega, show (1 : Int) = ((1 : Nat) : Int) from rfl, mBytes_seg (by omega), seg_length (by omega)]
              have HBY := Aside0.mk hls
              clear hls
              clear hl2
              go_wp2
              refine rg_start (n := 31) (S := fun w' => SB w w' [MO p m, Box w.heap.size #[.int .i64 lo, .int .i64 mx, .bool has] 29]) (bm 31 0) (by kernel_rfl) rfl (by kernel_rfl) (HW.out.drew) (fun hHeld => ?_)
              refine rg_take (i := 0) (N := some 68) (v := ?_) (a' := ?_) (bm 31 1) rfl rfl (by kernel_rfl) (fun _ _ _ h => h) hHeld (Or.inl ⟨by rfl, ?_⟩) ?_ ?_
              rotate_left
              · intro w' hw'
                have hbx := SB.boxAt w.heap.size 29 hw'
                have s0 := blk_cell hbx 0
                have s1 := blk_cell hbx 1
                have s2 := blk_cell hbx 2
                have hcell := HCELL.out w' hw'.bel
                go_simp
                with_reducible rfl
              rotate_left
              · simp only [Act.put, List.setIfInBounds_toArray, List.set_cons_zero, List.set_cons_succ]
                rfl
              refine rg_take (i := 1) (N := some 69) (v := ?_) (a' := ?_) (bm 31 3) rfl rfl (by kernel_rfl) (fun _ _ _ h => h) hHeld (Or.inl ⟨by rfl, ?_⟩) ?_ ?_
              rotate_left
              · intro w' hw'
                have hbx := SB.boxAt w.heap.size 29 hw'
                have s0 := blk_cell hbx 0
                have s1 := blk_cell hbx 1
                have s2 := blk_cell hbx 2
                have hcell := HCELL.out w' hw'.bel
                go_simp
                with_reducible rfl
              rotate_left
              · simp only [Act.put, List.setIfInBounds_toArray, List.set_cons_zero, List.set_cons_succ]
                rfl
              refine rg_take (i := 2) (N := some 70) (v := ?_) (a' := ?_) (bm 31 7) rfl rfl (by kernel_rfl) (fun _ _ _ h => h) hHeld (Or.inl ⟨by rfl, ?_⟩) ?_ ?_
              rotate_left
              · intro w' hw'
                have hbx := SB.boxAt w.heap.size 29 hw'
                have s0 := blk_cell hbx 0
                have s1 := blk_cell hbx 1
                have s2 := blk_cell hbx 2
                have hcell := HCELL.out w' hw'.bel
                go_simp
                with_reducible rfl
              rotate_left
              · simp only [Act.put, List.setIfInBounds_toArray, List.set_cons_zero, List.set_cons_succ]
                rfl
              refine rg_take (i := 3) (N := some 71) (v := ?_) (a' := ?_) (bm 31 15) rfl rfl (by kernel_rfl) (fun _ _ _ h => h) hHeld (Or.inl ⟨by rfl, ?_⟩) ?_ ?_
              rotate_left
              · intro w' hw'
                have hbx := SB.boxAt w.heap.size 29 hw'
                have s0 := blk_cell hbx 0
                have s1 := blk_cell hbx 1
                have s2 := blk_cell hbx 2
                have hcell := HCELL.out w' hw'.bel
                go_simp
                with_reducible rfl
              rotate_left
              · simp only [Act.put, List.setIfInBounds_toArray, List.set_cons_zero, List.set_cons_succ]
                rfl
              refine rg_take (i := 4) (N := some 72) (v := ?_) (a' := ?_) (bm 31 31) rfl rfl (by kernel_rfl) (fun _ _ _ h => h) hHeld (Or.inl ⟨by rfl, ?_⟩) ?_ ?_
              rotate_left
              · intro w' hw'
                have hbx := SB.boxAt w.heap.size 29 hw'
                have s0 := blk_cell hbx 0
                have s1 := blk_cell hbx 1
                have s2 := blk_cell hbx 2
                have hcell := HCELL.out w' hw'.bel
                go_simp
                with_reducible rfl
              rotate_left
              · simp only [Act.put, List.setIfInBounds_toArray, List.set_cons_zero, List.set_cons_succ]
                rfl
              refine rg_take (i := 5) (N := some 73) (v := ?_) (a' := ?_) (bm 31 63) rfl rfl (by kernel_rfl) (fun _ _ _ h => h) hHeld (Or.inl ⟨by rfl, ?_⟩) ?_ ?_
              rotate_left
              · intro w' hw'
                have hbx := SB.boxAt w.heap.size 29 hw'
                have s0 := blk_cell hbx 0
                have s1 := blk_cell hbx 1
                have s2 := blk_cell hbx 2
                have hcell := HCELL.out w' hw'.bel
                go_simp
                with_reducible rfl
              rotate_left
              · simp only [Act.put, List.setIfInBounds_toArray, List.set_cons_zero, List.set_cons_succ]
                rfl
              refine rg_take (i := 6) (N := some 74) (v := undef) (a' := ?_) (bm 31 127) rfl rfl (by kernel_rfl) (fun _ _ _ h => h) hHeld (Or.inr ⟨by rfl, rfl⟩) ?_ ?_
              rotate_left
              · simp only [Act.put, List.setIfInBounds_toArray, List.set_cons_zero, List.set_cons_succ]
                rfl
              refine rg_take (i := 7) (N := some 75) (v := undef) (a' := ?_) (bm 31 255) rfl rfl (by kernel_rfl) (fun _ _ _ h => h) hHeld (Or.inr ⟨by rfl, rfl⟩) ?_ ?_
              rotate_left
              · simp only [Act.put, List.setIfInBounds_toArray, List.set_cons_zero, List.set_cons_succ]
                rfl
              refine rg_take (i := 8) (N := some 76) (v := undef) (a' := ?_) (bm 31 511) rfl rfl (by kernel_rfl) (fun _ _ _ h => h) hHeld (Or.inr ⟨by rfl, rfl⟩) ?_ ?_
              rotate_left
              · simp only [Act.put, List.setIfInBounds_toArray, List.set_cons_zero, List.set_cons_succ]
                rfl
              refine rg_take (i := 9) (N := some 77) (v := undef) (a' := ?_) (bm 31 1023) rfl rfl (by kernel_rfl) (fun _ _ _ h => h) hHeld (Or.inr ⟨by rfl, rfl⟩) ?_ ?_
              rotate_left
              · simp only [Act.put, List.setIfInBounds_toArray, List.set_cons_zero, List.set_cons_succ]
                rfl
              refine rg_take (i := 10) (N := some 78) (v := undef) (a' := ?_) (bm 31 2047) rfl rfl (by kernel_rfl) (fun _ _ _ h => h) hHeld (Or.inr ⟨by rfl, rfl⟩) ?_ ?_
              rotate_left
              · simp only [Act.put, List.setIfInBounds_toArray, List.set_cons_zero, List.set_cons_succ]
                rfl
              refine rg_take (i := 11) (N := some 79) (v := undef) (a' := ?_) (bm 31 4095) rfl rfl (by kernel_rfl) (fun _ _ _ h => h) hHeld (Or.inr ⟨by rfl, rfl⟩) ?_ ?_
              rotate_left
              · simp only [Act.put, List.setIfInBounds_toArray, List.set_cons_zero, List.set_cons_succ]
                rfl
              refine rg_take (i := 12) (N := some 80) (v := undef) (a' := ?_) (bm 31 8191) rfl rfl (by kernel_rfl) (fun _ _ _ h => h) hHeld (Or.inr ⟨by rfl, rfl⟩) ?_ ?_
              rotate_left
              · simp only [Act.put, List.setIfInBounds_toArray, List.set_cons_zero, List.set_cons_succ]
                rfl
              refine rg_take (i := 13) (N := some 81) (v := ?_) (a' := ?_) (bm 31 16383) rfl rfl (by kernel_rfl) (fun _ _ _ h => h) hHeld (Or.inl ⟨by rfl, ?_⟩) ?_ ?_
              rotate_left
              · intro w' hw'
                have hbx := SB.boxAt w.heap.size 29 hw'
                have s0 := blk_cell hbx 0
                have s1 := blk_cell hbx 1
                have s2 := blk_cell hbx 2
                have hcell := HCELL.out w' hw'.bel
                go_simp
                with_reducible rfl
              rotate_left
              · simp only [Act.put, List.setIfInBounds_toArray, List.set_cons_zero, List.set_cons_succ]
                rfl
              refine rg_take (i := 14) (N := some 82) (v := ?_) (a' := ?_) (bm 31 32767) rfl rfl (by kernel_rfl) (fun _ _ _ h => h) hHeld (Or.inl ⟨by rfl, ?_⟩) ?_ ?_
              rotate_left
              · intro w' hw'
                have hbx := SB.boxAt w.heap.size 29 hw'
                have s0 := blk_cell hbx 0
                have s1 := blk_cell hbx 1
                have s2 := blk_cell hbx 2
                have hcell := HCELL.out w' hw'.bel
                go_simp
                with_reducible rfl
              rotate_left
              · simp only [Act.put, List.setIfInBounds_toArray, List.set_cons_zero, List.set_cons_succ]
                rfl
              refine rg_take (i := 15) (N := some 83) (v := undef) (a' := ?_) (bm 31 65535) rfl rfl (by kernel_rfl) (fun _ _ _ h => h) hHeld (Or.inr ⟨by rfl, rfl⟩) ?_ ?_
              rotate_left
              · simp only [Act.put, List.setIfInBounds_toArray, List.set_cons_zero, List.set_cons_succ]
                rfl
              refine rg_take (i := 16) (N := some 84) (v := undef) (a' := ?_) (bm 31 131071) rfl rfl (by kernel_rfl) (fun _ _ _ h => h) hHeld (Or.inr ⟨by rfl, rfl⟩) ?_ ?_
              rotate_left
              · simp only [Act.put, List.setIfInBounds_toArray, List.set_cons_zero, List.set_cons_succ]
                rfl
              refine rg_take (i := 17) (N := some 85) (v := undef) (a' := ?_) (bm 31 262143) rfl rfl (by kernel_rfl) (fun _ _ _ h => h) hHeld (Or.inr ⟨by rfl, rfl⟩) ?_ ?_
              rotate_left
              · simp only [Act.put, List.setIfInBounds_toArray, List.set_cons_zero, List.set_cons_succ]
                rfl
              refine rg_take (i := 18) (N := some 86) (v := undef) (a' := ?_) (bm 31 524287) rfl rfl (by kernel_rfl) (fun _ _ _ h => h) hHeld (Or.inr ⟨by rfl, rfl⟩) ?_ ?_
              rotate_left
              · simp only [Act.put, List.setIfInBounds_toArray, List.set_cons_zero, List.set_cons_succ]
                rfl
              refine rg_take (i := 19) (N := some 87) (v := undef) (a' := ?_) (bm 31 1048575) rfl rfl (by kernel_rfl) (fun _ _ _ h => h) hHeld (Or.inr ⟨by rfl, rfl⟩) ?_ ?_
              rotate_left
              · simp only [Act.put, List.setIfInBounds_toArray, List.set_cons_zero, List.set_cons_succ]
                rfl
              refine rg_take (i := 20) (N := some 88) (v := undef) (a' := ?_) (bm 31 2097151) rfl rfl (by kernel_rfl) (fun _ _ _ h => h) hHeld (Or.inr ⟨by rfl, rfl⟩) ?_ ?_
              rotate_left
              · simp only [Act.put, List.setIfInBounds_toArray, List.set_cons_zero, List.set_cons_succ]
                rfl
              refine rg_take (i := 21) (N := some 89) (v := undef) (a' := ?_) (bm 31 4194303) rfl rfl (by kernel_rfl) (fun _ _ _ h => h) hHeld (Or.inr ⟨by rfl, rfl⟩) ?_ ?_
              rotate_left
              · simp only [Act.put, List.setIfInBounds_toArray, List.set_cons_zero, List.set_cons_succ]
                rfl
              refine rg_take (i := 22) (N := some 90) (v := undef) (a' := ?_) (bm 31 8388607) rfl rfl (by kernel_rfl) (fun _ _ _ h => h) hHeld (Or.inr ⟨by rfl, rfl⟩) ?_ ?_
              rotate_left
              · simp only [Act.put, List.setIfInBounds_toArray, List.set_cons_zero, List.set_cons_succ]
                rfl
              refine rg_take (i := 23) (N := some 91) (v := undef) (a' := ?_) (bm 31 16777215) rfl rfl (by kernel_rfl) (fun _ _ _ h => h) hHeld (Or.inr ⟨by rfl, rfl⟩) ?_ ?_
              rotate_left
              · simp only [Act.put, List.setIfInBounds_toArray, List.set_cons_zero, List.set_cons_succ]
                rfl
              refine rg_take (i := 24) (N := some 92) (v := undef) (a' := ?_) (bm 31 33554431) rfl rfl (by kernel_rfl) (fun _ _ _ h => h) hHeld (Or.inr ⟨by rfl, rfl⟩) ?_ ?_
              rotate_left
              · simp only [Act.put, List.setIfInBounds_toArray, List.set_cons_zero, List.set_cons_succ]
                rfl
              refine rg_take (i := 25) (N := some 93) (v := undef) (a' := ?_) (bm 31 67108863) rfl rfl (by kernel_rfl) (fun _ _ _ h => h) hHeld (Or.inr ⟨by rfl, rfl⟩) ?_ ?_
              rotate_left
              · simp only [Act.put, List.setIfInBounds_toArray, List.set_cons_zero, List.set_cons_succ]
                rfl
              refine rg_take (i := 26) (N := some 94) (v := undef) (a' := ?_) (bm 31 134217727) rfl rfl (by kernel_rfl) (fun _ _ _ h => h) hHeld (Or.inr ⟨by rfl, rfl⟩) ?_ ?_
              rotate_left
              · simp only [Act.put, List.setIfInBounds_toArray, List.set_cons_zero, List.set_cons_succ]
                rfl
              refine rg_take (i := 27) (N := some 95) (v := undef) (a' := ?_) (bm 31 268435455) rfl rfl (by kernel_rfl) (fun _ _ _ h => h) hHeld (Or.inr ⟨by rfl, rfl⟩) ?_ ?_
              rotate_left
              · simp only [Act.put, List.setIfInBounds_toArray, List.set_cons_zero, List.set_cons_succ]
                rfl
              refine rg_take (i := 28) (N := some 96) (v := undef) (a' := ?_) (bm 31 536870911) rfl rfl (by kernel_rfl) (fun _ _ _ h => h) hHeld (Or.inr ⟨by rfl, rfl⟩) ?_ ?_
              rotate_left
              · simp only [Act.put, List.setIfInBounds_toArray, List.set_cons_zero, List.set_cons_succ]
                rfl
              refine rg_take (i := 29) (N := some 97) (v := ?_) (a' := ?_) (bm 31 1073741823) rfl rfl (by kernel_rfl) (fun _ _ _ h => h) hHeld (Or.inl ⟨by rfl, ?_⟩) ?_ ?_
              rotate_left
              · intro w' hw'
                have hbx := SB.boxAt w.heap.size 29 hw'
                have s0 := blk_cell hbx 0
                have s1 := blk_cell hbx 1
                have s2 := blk_cell hbx 2
                have hcell := HCELL.out w' hw'.bel
                go_simp
                with_reducible rfl
              rotate_left
              · simp only [Act.put, List.setIfInBounds_toArray, List.set_cons_zero, List.set_cons_succ]
                rfl
              refine rg_take (i := 30) (N := some 14) (v := ?_) (a' := ?_) (bm 31 2147483647) rfl rfl (by kernel_rfl) (fun _ _ _ h => h) hHeld (Or.inl ⟨by rfl, ?_⟩) ?_ ?_
              rotate_left
              · intro w' hw'
                have hbx := SB.boxAt w.heap.size 29 hw'
                have s0 := blk_cell hbx 0
                have s1 := blk_cell hbx 1
                have s2 := blk_cell hbx 2
                have hcell := HCELL.out w' hw'.bel
                go_simp
                with_reducible rfl
              rotate_left
              · simp only [Act.put, List.setIfInBounds_toArray, List.set_cons_zero, List.set_cons_succ]
                rfl
              refine rg_done (by kernel_rfl) ?_
              have hcell := HCELL.out wr.drew HW.out.drew.bel
              go_wp2_with (first
                | (go_at_call 20; (with_reducible refine (memGrowH (p := p) HW.out.drew HP.out _ hxr HRES.out HB2.out).mono ?_); rintro e wa ⟨rfl, hs⟩; have HW2 := Aside0.mk hs; have hcell2 := HCELL.out wa HW2.out.bel; clear hs)
                | (go_at_call 16; (with_reducible refine (memBytesH (p := p) HW2.out HP2.out.good at_ 1 (by omega) (by decide) HBY.out).mono ?_); rintro e wb ⟨v, rfl, hs⟩; have HW3 := Aside0.mk hs; clear hs; obtain ⟨Av, cv, rfl, _, _⟩ := HW3.out.reads)
                | (go_at_call 19; (with_reducible refine (memPagesH (p := p) HW3.out HP2.out.good HDV.out).mono ?_); rintro e wc ⟨rfl, hs⟩; have HW4 := Aside0.mk hs; clear hs)
                | (go_at_call 21; (with_reducible refine (memFitsH (p := p) HW4.out HP2.out.good NN 0 1 (by omega) (by decide) (by decide) HFT.out).mono ?_); rintro e wd ⟨rfl, hs⟩; have HW5 := Aside0.mk hs; clear hs))
              all_goals exact ⟨⟨i + 1, pg, ⟨b2, m.lo, m.hi, m.has⟩, rfl, by simp, by omega, HP2, HM, HPR3, ⟨HW5.out.drop⟩⟩, by simp [intOf]; omega⟩
          · have e1 : decide ((i : Int) < (n.length : Int)) = false := decide_eq_false (by omega)
            have e2 : decide (i < n.length) = false := decide_eq_false hlt
            have hbx := (HW.out.drew).boxAt w.heap.size 29
            have s0 := blk_cell hbx 0
            clear hbx
            cases r with
            | false =>
              go_wp2
              refine rg_start (n := 26) (S := fun w' => SB w w' [MO p m, Box w.heap.size #[.int .i64 lo, .int .i64 mx, .bool has] 29]) (bm 26 0) (by kernel_rfl) rfl (by kernel_rfl) (HW.out.drew) (fun hHeld => ?_)
              refine rg_take (i := 0) (N := some 153) (v := ?_) (a' := ?_) (bm 26 1) rfl rfl (by kernel_rfl) (fun _ _ _ h => h) hHeld (Or.inl ⟨by rfl, ?_⟩) ?_ ?_
              rotate_left
              · intro w' hw'
                have hbx := SB.boxAt w.heap.size 29 hw'
                have s0 := blk_cell hbx 0
                go_simp
                with_reducible rfl
              rotate_left
              · simp only [Act.put, List.setIfInBounds_toArray, List.set_cons_zero, List.set_cons_succ]
                rfl
              refine rg_take (i := 1) (N := some 154) (v := ?_) (a' := ?_) (bm 26 3) rfl rfl (by kernel_rfl) (fun _ _ _ h => h) hHeld (Or.inl ⟨by rfl, ?_⟩) ?_ ?_
              rotate_left
              · intro w' hw'
                have hbx := SB.boxAt w.heap.size 29 hw'
                have s0 := blk_cell hbx 0
                go_simp
                with_reducible rfl
              rotate_left
              · simp only [Act.put, List.setIfInBounds_toArray, List.set_cons_zero, List.set_cons_succ]
                rfl
              refine rg_take (i := 2) (N := some 155) (v := ?_) (a' := ?_) (bm 26 7) rfl rfl (by kernel_rfl) (fun _ _ _ h => h) hHeld (Or.inl ⟨by rfl, ?_⟩) ?_ ?_
              rotate_left
              · intro w' hw'
                have hbx := SB.boxAt w.heap.size 29 hw'
                have s0 := blk_cell hbx 0
                go_simp
                with_reducible rfl
              rotate_left
              · simp only [Act.put, List.setIfInBounds_toArray, List.set_cons_zero, List.set_cons_succ]
                rfl
              refine rg_take (i := 3) (N := some 156) (v := ?_) (a' := ?_) (bm 26 15) rfl rfl (by kernel_rfl) (fun _ _ _ h => h) hHeld (Or.inl ⟨by rfl, ?_⟩) ?_ ?_
              rotate_left
              · intro w' hw'
                have hbx := SB.boxAt w.heap.size 29 hw'
                have s0 := blk_cell hbx 0
                go_simp
                with_reducible rfl
              rotate_left
              · simp only [Act.put, List.setIfInBounds_toArray, List.set_cons_zero, List.set_cons_succ]
                rfl
              refine rg_take (i := 4) (N := some 157) (v := ?_) (a' := ?_) (bm 26 31) rfl rfl (by kernel_rfl) (fun _ _ _ h => h) hHeld (Or.inl ⟨by rfl, ?_⟩) ?_ ?_
              rotate_left
              · intro w' hw'
                have hbx := SB.boxAt w.heap.size 29 hw'
                have s0 := blk_cell hbx 0
                go_simp
                with_reducible rfl
              rotate_left
              · simp only [Act.put, List.setIfInBounds_toArray, List.set_cons_zero, List.set_cons_succ]
                rfl
              refine rg_take (i := 5) (N := some 158) (v := ?_) (a' := ?_) (bm 26 63) rfl rfl (by kernel_rfl) (fun _ _ _ h => h) hHeld (Or.inl ⟨by rfl, ?_⟩) ?_ ?_
              rotate_left
              · intro w' hw'
                have hbx := SB.boxAt w.heap.size 29 hw'
                have s0 := blk_cell hbx 0
                go_simp
                with_reducible rfl
              rotate_left
              · simp only [Act.put, List.setIfInBounds_toArray, List.set_cons_zero, List.set_cons_succ]
                rfl
              refine rg_take (i := 6) (N := some 159) (v := ?_) (a' := ?_) (bm 26 127) rfl rfl (by kernel_rfl) (fun _ _ _ h => h) hHeld (Or.inl ⟨by rfl, ?_⟩) ?_ ?_
              rotate_left
              · intro w' hw'
                have hbx := SB.boxAt w.heap.size 29 hw'
                have s0 := blk_cell hbx 0
                go_simp
                with_reducible rfl
              rotate_left
              · simp only [Act.put, List.setIfInBounds_toArray, List.set_cons_zero, List.set_cons_succ]
                rfl
              refine rg_take (i := 7) (N := some 160) (v := ?_) (a' := ?_) (bm 26 255) rfl rfl (by kernel_rfl) (fun _ _ _ h => h) hHeld (Or.inl ⟨by rfl, ?_⟩) ?_ ?_
              rotate_left
              · intro w' hw'
                have hbx := SB.boxAt w.heap.size 29 hw'
                have s0 := blk_cell hbx 0
                go_simp
                with_reducible rfl
              rotate_left
              · simp only [Act.put, List.setIfInBounds_toArray, List.set_cons_zero, List.set_cons_succ]
                rfl
              refine rg_take (i := 8) (N := some 161) (v := ?_) (a' := ?_) (bm 26 511) rfl rfl (by kernel_rfl) (fun _ _ _ h => h) hHeld (Or.inl ⟨by rfl, ?_⟩) ?_ ?_
              rotate_left
              · intro w' hw'
                have hbx := SB.boxAt w.heap.size 29 hw'
                have s0 := blk_cell hbx 0
                go_simp
                with_reducible rfl
              rotate_left
              · simp only [Act.put, List.setIfInBounds_toArray, List.set_cons_zero, List.set_cons_succ]
                rfl
              refine rg_take (i := 9) (N := some 162) (v := ?_) (a' := ?_) (bm 26 1023) rfl rfl (by kernel_rfl) (fun _ _ _ h => h) hHeld (Or.inl ⟨by rfl, ?_⟩) ?_ ?_
              rotate_left
              · intro w' hw'
                have hbx := SB.boxAt w.heap.size 29 hw'
                have s0 := blk_cell hbx 0
                go_simp
                with_reducible rfl
              rotate_left
              · simp only [Act.put, List.setIfInBounds_toArray, List.set_cons_zero, List.set_cons_succ]
                rfl
              refine rg_take (i := 10) (N := some 163) (v := ?_) (a' := ?_) (bm 26 2047) rfl rfl (by kernel_rfl) (fun _ _ _ h => h) hHeld (Or.inl ⟨by rfl, ?_⟩) ?_ ?_
              rotate_left
              · intro w' hw'
                have hbx := SB.boxAt w.heap.size 29 hw'
                have s0 := blk_cell hbx 0
                go_simp
                with_reducible rfl
              rotate_left
              · simp only [Act.put, List.setIfInBounds_toArray, List.set_cons_zero, List.set_cons_succ]
                rfl
              refine rg_take (i := 11) (N := some 164) (v := ?_) (a' := ?_) (bm 26 4095) rfl rfl (by kernel_rfl) (fun _ _ _ h => h) hHeld (Or.inl ⟨by rfl, ?_⟩) ?_ ?_
              rotate_left
              · intro w' hw'
                have hbx := SB.boxAt w.heap.size 29 hw'
                have s0 := blk_cell hbx 0
                go_simp
                with_reducible rfl
              rotate_left
              · simp only [Act.put, List.setIfInBounds_toArray, List.set_cons_zero, List.set_cons_succ]
                rfl
              refine rg_take (i := 12) (N := some 165) (v := ?_) (a' := ?_) (bm 26 8191) rfl rfl (by kernel_rfl) (fun _ _ _ h => h) hHeld (Or.inl ⟨by rfl, ?_⟩) ?_ ?_
              rotate_left
              · intro w' hw'
                have hbx := SB.boxAt w.heap.size 29 hw'
                have s0 := blk_cell hbx 0
                go_simp
                with_reducible rfl
              rotate_left
              · simp only [Act.put, List.setIfInBounds_toArray, List.set_cons_zero, List.set_cons_succ]
                rfl
              refine rg_take (i := 13) (N := some 166) (v := ?_) (a' := ?_) (bm 26 16383) rfl rfl (by kernel_rfl) (fun _ _ _ h => h) hHeld (Or.inl ⟨by rfl, ?_⟩) ?_ ?_
              rotate_left
              · intro w' hw'
                have hbx := SB.boxAt w.heap.size 29 hw'
                have s0 := blk_cell hbx 0
                go_simp
                with_reducible rfl
              rotate_left
              · simp only [Act.put, List.setIfInBounds_toArray, List.set_cons_zero, List.set_cons_succ]
                rfl
              refine rg_take (i := 14) (N := some 167) (v := ?_) (a' := ?_) (bm 26 32767) rfl rfl (by kernel_rfl) (fun _ _ _ h => h) hHeld (Or.inl ⟨by rfl, ?_⟩) ?_ ?_
              rotate_left
              · intro w' hw'
                have hbx := SB.boxAt w.heap.size 29 hw'
                have s0 := blk_cell hbx 0
                go_simp
                with_reducible rfl
              rotate_left
              · simp only [Act.put, List.setIfInBounds_toArray, List.set_cons_zero, List.set_cons_succ]
                rfl
              refine rg_take (i := 15) (N := some 168) (v := undef) (a' := ?_) (bm 26 65535) rfl rfl (by kernel_rfl) (fun _ _ _ h => h) hHeld (Or.inr ⟨by rfl, rfl⟩) ?_ ?_
              rotate_left
              · simp only [Act.put, List.setIfInBounds_toArray, List.set_cons_zero, List.set_cons_succ]
                rfl
              refine rg_take (i := 16) (N := some 169) (v := undef) (a' := ?_) (bm 26 131071) rfl rfl (by kernel_rfl) (fun _ _ _ h => h) hHeld (Or.inr ⟨by rfl, rfl⟩) ?_ ?_
              rotate_left
              · simp only [Act.put, List.setIfInBounds_toArray, List.set_cons_zero, List.set_cons_succ]
                rfl
              refine rg_take (i := 17) (N := some 170) (v := undef) (a' := ?_) (bm 26 262143) rfl rfl (by kernel_rfl) (fun _ _ _ h => h) hHeld (Or.inr ⟨by rfl, rfl⟩) ?_ ?_
              rotate_left
              · simp only [Act.put, List.setIfInBounds_toArray, List.set_cons_zero, List.set_cons_succ]
                rfl
              refine rg_take (i := 18) (N := some 171) (v := undef) (a' := ?_) (bm 26 524287) rfl rfl (by kernel_rfl) (fun _ _ _ h => h) hHeld (Or.inr ⟨by rfl, rfl⟩) ?_ ?_
              rotate_left
              · simp only [Act.put, List.setIfInBounds_toArray, List.set_cons_zero, List.set_cons_succ]
                rfl
              refine rg_take (i := 19) (N := some 172) (v := undef) (a' := ?_) (bm 26 1048575) rfl rfl (by kernel_rfl) (fun _ _ _ h => h) hHeld (Or.inr ⟨by rfl, rfl⟩) ?_ ?_
              rotate_left
              · simp only [Act.put, List.setIfInBounds_toArray, List.set_cons_zero, List.set_cons_succ]
                rfl
              refine rg_take (i := 20) (N := some 173) (v := undef) (a' := ?_) (bm 26 2097151) rfl rfl (by kernel_rfl) (fun _ _ _ h => h) hHeld (Or.inr ⟨by rfl, rfl⟩) ?_ ?_
              rotate_left
              · simp only [Act.put, List.setIfInBounds_toArray, List.set_cons_zero, List.set_cons_succ]
                rfl
              refine rg_take (i := 21) (N := some 174) (v := undef) (a' := ?_) (bm 26 4194303) rfl rfl (by kernel_rfl) (fun _ _ _ h => h) hHeld (Or.inr ⟨by rfl, rfl⟩) ?_ ?_
              rotate_left
              · simp only [Act.put, List.setIfInBounds_toArray, List.set_cons_zero, List.set_cons_succ]
                rfl
              refine rg_take (i := 22) (N := some 175) (v := undef) (a' := ?_) (bm 26 8388607) rfl rfl (by kernel_rfl) (fun _ _ _ h => h) hHeld (Or.inr ⟨by rfl, rfl⟩) ?_ ?_
              rotate_left
              · simp only [Act.put, List.setIfInBounds_toArray, List.set_cons_zero, List.set_cons_succ]
                rfl
              refine rg_take (i := 23) (N := some 176) (v := ?_) (a' := ?_) (bm 26 16777215) rfl rfl (by kernel_rfl) (fun _ _ _ h => h) hHeld (Or.inl ⟨by rfl, ?_⟩) ?_ ?_
              rotate_left
              · intro w' hw'
                have hbx := SB.boxAt w.heap.size 29 hw'
                have s0 := blk_cell hbx 0
                go_simp
                with_reducible rfl
              rotate_left
              · simp only [Act.put, List.setIfInBounds_toArray, List.set_cons_zero, List.set_cons_succ]
                rfl
              refine rg_take (i := 24) (N := some 177) (v := ?_) (a' := ?_) (bm 26 33554431) rfl rfl (by kernel_rfl) (fun _ _ _ h => h) hHeld (Or.inl ⟨by rfl, ?_⟩) ?_ ?_
              rotate_left
              · intro w' hw'
                have hbx := SB.boxAt w.heap.size 29 hw'
                have s0 := blk_cell hbx 0
                go_simp
                with_reducible rfl
              rotate_left
              · simp only [Act.put, List.setIfInBounds_toArray, List.set_cons_zero, List.set_cons_succ]
                rfl
              refine rg_take (i := 25) (N := some 6) (v := ?_) (a' := ?_) (bm 26 67108863) rfl rfl (by kernel_rfl) (fun _ _ _ h => h) hHeld (Or.inl ⟨by rfl, ?_⟩) ?_ ?_
              rotate_left
              · intro w' hw'
                have hbx := SB.boxAt w.heap.size 29 hw'
                have s0 := blk_cell hbx 0
                go_simp
                with_reducible rfl
              rotate_left
              · simp only [Act.put, List.setIfInBounds_toArray, List.set_cons_zero, List.set_cons_succ]
                rfl
              refine rg_done (by kernel_rfl) ?_
              go_wp2
              go_ret
              exact ⟨rfl, SB.bel hHeld⟩
            | true =>
              have HBB := Aside0.mk (show mBytes m.b 0 b.length = b by obtain ⟨h1, h2⟩ := HPR2.out rfl; rw [show (0 : Int) = ((0 : Nat) : Int) from rfl, mBytes_seg (by omega)]; unfold seg; rw [List.drop_zero, h1])
              have HCB := Aside0.mk (fun (W : World) (hb : Below w.heap.size w W) => Kd.C_string (P := Tryd.prog) (c := cb) Tryd.underlying39 Tryd.underlying5 Tryd.underlying9 (Kd.C_below HC.out hb))
              go_wp2
              refine rg_start (n := 26) (S := fun w' => SB w w' [MO p m, Box w.heap.size #[.int .i64 lo, .int .i64 mx, .bool has] 29]) (bm 26 0) (by kernel_rfl) rfl (by kernel_rfl) (HW.out.drew) (fun hHeld => ?_)
              refine rg_take (i := 0) (N := some 153) (v := ?_) (a' := ?_) (bm 26 1) rfl rfl (by kernel_rfl) (fun _ _ _ h => h) hHeld (Or.inl ⟨by rfl, ?_⟩) ?_ ?_
              rotate_left
              · intro w' hw'
                have hbx := SB.boxAt w.heap.size 29 hw'
                have s0 := blk_cell hbx 0
                go_simp
                with_reducible rfl
              rotate_left
              · simp only [Act.put, List.setIfInBounds_toArray, List.set_cons_zero, List.set_cons_succ]
                rfl
              refine rg_take (i := 1) (N := some 154) (v := ?_) (a' := ?_) (bm 26 3) rfl rfl (by kernel_rfl) (fun _ _ _ h => h) hHeld (Or.inl ⟨by rfl, ?_⟩) ?_ ?_
              rotate_left
              · intro w' hw'
                have hbx := SB.boxAt w.heap.size 29 hw'
                have s0 := blk_cell hbx 0
                go_simp
                with_reducible rfl
              rotate_left
              · simp only [Act.put, List.setIfInBounds_toArray, List.set_cons_zero, List.set_cons_succ]
                rfl
              refine rg_take (i := 2) (N := some 155) (v := ?_) (a' := ?_) (bm 26 7) rfl rfl (by kernel_rfl) (fun _ _ _ h => h) hHeld (Or.inl ⟨by rfl, ?_⟩) ?_ ?_
              rotate_left
              · intro w' hw'
                have hbx := SB.boxAt w.heap.size 29 hw'
                have s0 := blk_cell hbx 0
                go_simp
                with_reducible rfl
              rotate_left
              · simp only [Act.put, List.setIfInBounds_toArray, List.set_cons_zero, List.set_cons_succ]
                rfl
              refine rg_take (i := 3) (N := some 156) (v := ?_) (a' := ?_) (bm 26 15) rfl rfl (by kernel_rfl) (fun _ _ _ h => h) hHeld (Or.inl ⟨by rfl, ?_⟩) ?_ ?_
              rotate_left
              · intro w' hw'
                have hbx := SB.boxAt w.heap.size 29 hw'
                have s0 := blk_cell hbx 0
                go_simp
                with_reducible rfl
              rotate_left
              · simp only [Act.put, List.setIfInBounds_toArray, List.set_cons_zero, List.set_cons_succ]
                rfl
              refine rg_take (i := 4) (N := some 157) (v := ?_) (a' := ?_) (bm 26 31) rfl rfl (by kernel_rfl) (fun _ _ _ h => h) hHeld (Or.inl ⟨by rfl, ?_⟩) ?_ ?_
              rotate_left
              · intro w' hw'
                have hbx := SB.boxAt w.heap.size 29 hw'
                have s0 := blk_cell hbx 0
                go_simp
                with_reducible rfl
              rotate_left
              · simp only [Act.put, List.setIfInBounds_toArray, List.set_cons_zero, List.set_cons_succ]
                rfl
              refine rg_take (i := 5) (N := some 158) (v := ?_) (a' := ?_) (bm 26 63) rfl rfl (by kernel_rfl) (fun _ _ _ h => h) hHeld (Or.inl ⟨by rfl, ?_⟩) ?_ ?_
              rotate_left
              · intro w' hw'
                have hbx := SB.boxAt w.heap.size 29 hw'
                have s0 := blk_cell hbx 0
                go_simp
                with_reducible rfl
              rotate_left
              · simp only [Act.put, List.setIfInBounds_toArray, List.set_cons_zero, List.set_cons_succ]
                rfl
              refine rg_take (i := 6) (N := some 159) (v := ?_) (a' := ?_) (bm 26 127) rfl rfl (by kernel_rfl) (fun _ _ _ h => h) hHeld (Or.inl ⟨by rfl, ?_⟩) ?_ ?_
              rotate_left
              · intro w' hw'
                have hbx := SB.boxAt w.heap.size 29 hw'
                have s0 := blk_cell hbx 0
                go_simp
                with_reducible rfl
              rotate_left
              · simp only [Act.put, List.setIfInBounds_toArray, List.set_cons_zero, List.set_cons_succ]
                rfl
              refine rg_take (i := 7) (N := some 160) (v := ?_) (a' := ?_) (bm 26 255) rfl rfl (by kernel_rfl) (fun _ _ _ h => h) hHeld (Or.inl ⟨by rfl, ?_⟩) ?_ ?_
              rotate_left
              · intro w' hw'
                have hbx := SB.boxAt w.heap.size 29 hw'
                have s0 := blk_cell hbx 0
                go_simp
                with_reducible rfl
              rotate_left
              · simp only [Act.put, List.setIfInBounds_toArray, List.set_cons_zero, List.set_cons_succ]
                rfl
              refine rg_take (i := 8) (N := some 161) (v := ?_) (a' := ?_) (bm 26 511) rfl rfl (by kernel_rfl) (fun _ _ _ h => h) hHeld (Or.inl ⟨by rfl, ?_⟩) ?_ ?_
              rotate_left
              · intro w' hw'
                have hbx := SB.boxAt w.heap.size 29 hw'
                have s0 := blk_cell hbx 0
                go_simp
                with_reducible rfl
              rotate_left
              · simp only [Act.put, List.setIfInBounds_toArray, List.set_cons_zero, List.set_cons_succ]
                rfl
              refine rg_take (i := 9) (N := some 162) (v := ?_) (a' := ?_) (bm 26 1023) rfl rfl (by kernel_rfl) (fun _ _ _ h => h) hHeld (Or.inl ⟨by rfl, ?_⟩) ?_ ?_
              rotate_left
              · intro w' hw'
                have hbx := SB.boxAt w.heap.size 29 hw'
                have s0 := blk_cell hbx 0
                go_simp
                with_reducible rfl
              rotate_left
              · simp only [Act.put, List.setIfInBounds_toArray, List.set_cons_zero, List.set_cons_succ]
                rfl
              refine rg_take (i := 10) (N := some 163) (v := ?_) (a' := ?_) (bm 26 2047) rfl rfl (by kernel_rfl) (fun _ _ _ h => h) hHeld (Or.inl ⟨by rfl, ?_⟩) ?_ ?_
              rotate_left
              · intro w' hw'
                have hbx := SB.boxAt w.heap.size 29 hw'
                have s0 := blk_cell hbx 0
                go_simp
                with_reducible rfl
              rotate_left
              · simp only [Act.put, List.setIfInBounds_toArray, List.set_cons_zero, List.set_cons_succ]
                rfl
              refine rg_take (i := 11) (N := some 164) (v := ?_) (a' := ?_) (bm 26 4095) rfl rfl (by kernel_rfl) (fun _ _ _ h => h) hHeld (Or.inl ⟨by rfl, ?_⟩) ?_ ?_
              rotate_left
              · intro w' hw'
                have hbx := SB.boxAt w.heap.size 29 hw'
                have s0 := blk_cell hbx 0
                go_simp
                with_reducible rfl
              rotate_left
              · simp only [Act.put, List.setIfInBounds_toArray, List.set_cons_zero, List.set_cons_succ]
                rfl
              refine rg_take (i := 12) (N := some 165) (v := ?_) (a' := ?_) (bm 26 8191) rfl rfl (by kernel_rfl) (fun _ _ _ h => h) hHeld (Or.inl ⟨by rfl, ?_⟩) ?_ ?_
              rotate_left
              · intro w' hw'
                have hbx := SB.boxAt w.heap.size 29 hw'
                have s0 := blk_cell hbx 0
                go_simp
                with_reducible rfl
              rotate_left
              · simp only [Act.put, List.setIfInBounds_toArray, List.set_cons_zero, List.set_cons_succ]
                rfl
              refine rg_take (i := 13) (N := some 166) (v := ?_) (a' := ?_) (bm 26 16383) rfl rfl (by kernel_rfl) (fun _ _ _ h => h) hHeld (Or.inl ⟨by rfl, ?_⟩) ?_ ?_
              rotate_left
              · intro w' hw'
                have hbx := SB.boxAt w.heap.size 29 hw'
                have s0 := blk_cell hbx 0
                go_simp
                with_reducible rfl
              rotate_left
              · simp only [Act.put, List.setIfInBounds_toArray, List.set_cons_zero, List.set_cons_succ]
                rfl
              refine rg_take (i := 14) (N := some 167) (v := ?_) (a' := ?_) (bm 26 32767) rfl rfl (by kernel_rfl) (fun _ _ _ h => h) hHeld (Or.inl ⟨by rfl, ?_⟩) ?_ ?_
              rotate_left
              · intro w' hw'
                have hbx := SB.boxAt w.heap.size 29 hw'
                have s0 := blk_cell hbx 0
                go_simp
                with_reducible rfl
              rotate_left
              · simp only [Act.put, List.setIfInBounds_toArray, List.set_cons_zero, List.set_cons_succ]
                rfl
              refine rg_take (i := 15) (N := some 168) (v := ?_) (a' := ?_) (bm 26 65535) rfl rfl (by kernel_rfl) (fun _ _ _ h => h) hHeld (Or.inl ⟨by rfl, ?_⟩) ?_ ?_
              rotate_left
              · intro w' hw'
                have hbx := SB.boxAt w.heap.size 29 hw'
                have s0 := blk_cell hbx 0
                go_simp
                with_reducible rfl
              rotate_left
              · simp only [Act.put, List.setIfInBounds_toArray, List.set_cons_zero, List.set_cons_succ]
                rfl
              refine rg_take (i := 16) (N := some 169) (v := ?_) (a' := ?_) (bm 26 131071) rfl rfl (by kernel_rfl) (fun _ _ _ h => h) hHeld (Or.inl ⟨by rfl, ?_⟩) ?_ ?_
              rotate_left
              · intro w' hw'
                have hbx := SB.boxAt w.heap.size 29 hw'
                have s0 := blk_cell hbx 0
                go_simp
                with_reducible rfl
              rotate_left
              · simp only [Act.put, List.setIfInBounds_toArray, List.set_cons_zero, List.set_cons_succ]
                rfl
              refine rg_take (i := 17) (N := some 170) (v := ?_) (a' := ?_) (bm 26 262143) rfl rfl (by kernel_rfl) (fun _ _ _ h => h) hHeld (Or.inl ⟨by rfl, ?_⟩) ?_ ?_
              rotate_left
              · intro w' hw'
                have hbx := SB.boxAt w.heap.size 29 hw'
                have s0 := blk_cell hbx 0
                go_simp
                with_reducible rfl
              rotate_left
              · simp only [Act.put, List.setIfInBounds_toArray, List.set_cons_zero, List.set_cons_succ]
                rfl
              refine rg_take (i := 20) (N := some 173) (v := ?_) (a' := ?_) (bm 26 1310719) rfl rfl (by kernel_rfl) (fun _ _ _ h => h) hHeld (Or.inl ⟨by rfl, ?_⟩) ?_ ?_
              rotate_left
              · intro w' hw'
                have hbx := SB.boxAt w.heap.size 29 hw'
                have s0 := blk_cell hbx 0
                go_simp
                with_reducible rfl
              rotate_left
              · simp only [Act.put, List.setIfInBounds_toArray, List.set_cons_zero, List.set_cons_succ]
                rfl
              refine rg_take (i := 21) (N := some 174) (v := ?_) (a' := ?_) (bm 26 3407871) rfl rfl (by kernel_rfl) (fun _ _ _ h => h) hHeld (Or.inl ⟨by rfl, ?_⟩) ?_ ?_
              rotate_left
              · intro w' hw'
                have hc := HCB.out w' hw'.bel
                go_simp
                with_reducible rfl
              rotate_left
              · simp only [Act.put, List.setIfInBounds_toArray, List.set_cons_zero, List.set_cons_succ]
                rfl
              refine rg_ready [18] (by kernel_rfl) (by simp) ?_
              refine rg_one (i := 18) (N := some 171) (bm 26 3670015) rfl rfl (by kernel_rfl) (fun K hK => ?_) rg_nil
              go_simp
              go_at_call 16
              with_reducible refine (memBytesH (p := p) hHeld HP.out.good 0 b.length (by decide) (by omega) HBB.out).mono ?_
              rintro e wx18r24 ⟨v1, rfl, hnew⟩
              go_wp2_with fail
              refine hK.out _ _ hnew.drop ?_
              clear hK K
              refine rg_norm (a' := ?_) ?_ ?_
              rotate_left
              · simp only [Act.put, List.setIfInBounds_toArray, List.set_cons_zero, List.set_cons_succ]
                rfl
              refine rg_sb hnew ?_
              clear hHeld
              have hHeld := hnew
              clear hnew
              refine rg_take (i := 19) (N := some 172) (v := ?_) (a' := ?_) (bm 26 4194303) rfl rfl (by kernel_rfl) (fun _ _ _ h => h) hHeld (Or.inl ⟨by rfl, ?_⟩) ?_ ?_
              rotate_left
              · intro w' hw'
                have hc := SB.str hw'
                go_simp
                with_reducible rfl
              rotate_left
              · simp only [Act.put, List.setIfInBounds_toArray, List.set_cons_zero, List.set_cons_succ]
                rfl
              refine rg_take (i := 22) (N := some 175) (v := ?_) (a' := ?_) (bm 26 8388607) rfl rfl (by kernel_rfl) (fun _ _ _ h => h) hHeld (Or.inl ⟨by rfl, ?_⟩) ?_ ?_
              rotate_left
              · intro w' hw'
                have hbx := SB.boxAt w.heap.size 29 hw'
                have s0 := blk_cell hbx 0
                go_simp
                with_reducible rfl
              rotate_left
              · simp only [Act.put, List.setIfInBounds_toArray, List.set_cons_zero, List.set_cons_succ]
                rfl
              refine rg_take (i := 23) (N := some 176) (v := ?_) (a' := ?_) (bm 26 16777215) rfl rfl (by kernel_rfl) (fun _ _ _ h => h) hHeld (Or.inl ⟨by rfl, ?_⟩) ?_ ?_
              rotate_left
              · intro w' hw'
                have hbx := SB.boxAt w.heap.size 29 hw'
                have s0 := blk_cell hbx 0
                go_simp
                with_reducible rfl
              rotate_left
              · simp only [Act.put, List.setIfInBounds_toArray, List.set_cons_zero, List.set_cons_succ]
                rfl
              refine rg_take (i := 24) (N := some 177) (v := ?_) (a' := ?_) (bm 26 33554431) rfl rfl (by kernel_rfl) (fun _ _ _ h => h) hHeld (Or.inl ⟨by rfl, ?_⟩) ?_ ?_
              rotate_left
              · intro w' hw'
                have hbx := SB.boxAt w.heap.size 29 hw'
                have s0 := blk_cell hbx 0
                go_simp
                with_reducible rfl
              rotate_left
              · simp only [Act.put, List.setIfInBounds_toArray, List.set_cons_zero, List.set_cons_succ]
                rfl
              refine rg_take (i := 25) (N := some 6) (v := ?_) (a' := ?_) (bm 26 67108863) rfl rfl (by kernel_rfl) (fun _ _ _ h => h) hHeld (Or.inl ⟨by rfl, ?_⟩) ?_ ?_
              rotate_left
              · intro w' hw'
                have hbx := SB.boxAt w.heap.size 29 hw'
                have s0 := blk_cell hbx 0
                go_simp
                with_reducible rfl
              rotate_left
              · simp only [Act.put, List.setIfInBounds_toArray, List.set_cons_zero, List.set_cons_succ]
                rfl
              refine rg_done (by kernel_rfl) ?_
              go_wp2
              go_ret
              exact ⟨rfl, SB.bel hHeld⟩
      · obtain ⟨er, her⟩ : ∃ er, mBad mn mx has = er := ⟨_, rfl⟩
        have d2 : (er == 0) = false := beq_eq_false_iff_ne.2 (by rw [← her]; exact c2)
        have d2' : (er != 0) = true := bne_iff_ne.2 (by rw [← her]; exact c2)
        have C2 := Aside0.mk c2
        have HER := Aside0.mk her
        clear c2 her
        go_enter Tryd.func7, Tryd.ntmps7
        go_wp2_with (first
          | (go_at_call 9; (with_reducible refine (awake _ (HG.out.below HS0.out.bel)).mono ?_); rintro e w1 ⟨rfl, hb⟩; have HS1 := Aside0.mk (HS0.out.below hb); have hbx := HS1.out.boxAt w.heap.size 29; have q0 := blk_cell hbx 0; have q1 := blk_cell hbx 1; have q2 := blk_cell hbx 2; clear hb hbx)
          | (go_at_call 10; (with_reducible refine (memNewNo mn mx has _ hmn hmx C2.out).mono ?_); rintro e w2 ⟨rfl, hb⟩; rw [HER.out]; have HS2 := Aside0.mk (HS1.out.below hb); clear hb)
          | (go_at_call 19; (with_reducible refine (nilPages _).mono ?_); rintro e w3 ⟨rfl, hd⟩; have HS3 := Aside0.mk (HS2.out.below (drawn_below hd)); clear hd)
          | (go_at_call 20; (with_reducible refine (nilGrow _).mono ?_); rintro e w4 ⟨rfl, hd⟩; have HS4 := Aside0.mk (HS3.out.below (drawn_below hd)); clear hd)
          | (go_at_call 21; (with_reducible refine (nilFits 1 0 0 _ (by decide) (by decide) (by decide) (by decide)).mono ?_); rintro e w5 ⟨rfl, hd⟩; have HS5 := Aside0.mk (HS4.out.below (drawn_below hd)); clear hd)
          | (go_at_call 11; (with_reducible refine (nilStore _ (HG.out.below HS5.out.bel)).mono ?_); rintro e w6 ⟨rfl, hb6⟩; have HS6 := Aside0.mk (HS5.out.below hb6); clear hb6)
          | (go_at_call 16; (with_reducible refine (nilBytes _).mono ?_); rintro e w7 ⟨rfl, hd⟩; have HS7 := Aside0.mk (HS6.out.below (drawn_below hd)); clear hd))
        go_ret
        exact ⟨rfl, HS7.out.bel⟩
def avocetlaw13_MemoryGrows.f (a0_0 : Int) (a0_1 : Int) (a0_2 : Bool) (l1 : List Int) (l2 : List Int) : Option (Bool) := if okB l2 && okI a0_0 && okI a0_1 && l1.all okI && decide (l1.length ≤ 9223372036854775807) then some true else none
theorem avocetlaw13_MemoryGrows.calls (a0_0 : Int) (a0_1 : Int) (a0_2 : Bool) (A1 : Option Addr) (c1 : Nat) (l1 : List Int) (A2 : Option Addr) (c2 : Nat) (l2 : List Int) (r : Bool) (w : World) (hG : Globs w) (hr1 : Kd.C (Kd.int .i64) w A1 l1.length l1) (hc1 : l1.length ≤ c1) (hr2 : Kd.C (Kd.int .u8) w A2 l2.length l2) (hc2 : l2.length ≤ c2) (hr_ : r = true) (h : avocetlaw13_MemoryGrows.f a0_0 a0_1 a0_2 l1 l2 = some r) :
    Calls Tryd.prog 7 #[.agg #[.int .i64 a0_0, .int .i64 a0_1, .bool a0_2], .slice A1 l1.length c1, .slice A2 l2.length c2] w fun e w' => e = .returned (.bool r) ∧ Below w.heap.size w w' := by
  subst hr_
  unfold avocetlaw13_MemoryGrows.f at h
  split at h
  · rename_i hb
    simp only [Bool.and_eq_true, List.all_eq_true, decide_eq_true_eq] at hb
    obtain ⟨h1, h2⟩ := okB_iff.1 hb.1.1.1.1
    exact memoryGrows a0_0 a0_1 a0_2 l1 l2 A1 A2 c1 c2 w hG (okI_iff.1 hb.1.1.1.2) (okI_iff.1 hb.1.1.2) hr1 hc1 (by omega) (fun x hx => okI_iff.1 (hb.1.2 x hx)) hr2 hc2 h1 (by omega)
  · cases h
end Go.Proofs.YtffoolhfjomhhaaDoor.G

