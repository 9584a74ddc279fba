/- The law MemorySums walked. -/
import Derived.Test.YtffoolhfjomhhaaDoorG
import Derived.Test.YtffoolhfjomhhaaDoorG91
import Derived.Test.YtffoolhfjomhhaaDoorMemH
import Derived.Test.YtffoolhfjomhhaaDoorMemS
namespace Go.Proofs.YtffoolhfjomhhaaDoor.G
open Go.RowKit Go.Proofs.YtffoolhfjomhhaaDoorW.PrintWords Go.Proofs.YtffoolhfjomhhaaDoorW.PrintLast Go.Proofs.YtffoolhfjomhhaaDoorW.PrintMore
attribute [local go_sem] max2_int min2_int max_two min_two max_three min_three max_four min_four   -- for this text's walks alone
set_option linter.unusedVariables false
set_option linter.unusedSimpArgs false
theorem mStore_one {b : List Int} {k : Nat} {c : Int} (hk : k ≤ 65535) (hb : b.length = 65536) (hc : 0 ≤ c ∧ c < 256) : mStore b 58 k 0 c = some (splice b k [c]) := by
  unfold mStore
  rw [if_pos ⟨rfl, mFits_iff.2 ⟨by omega, by decide, by decide, by rw [hb]; show (k : Int) + 0 + 1 ≤ _; omega⟩⟩]
  have : le 1 c.toNat = [c] := by simp [le]; omega
  show some (splice b ((k : Int) + 0).toNat (le 1 c.toNat)) = _
  rw [this, Int.add_zero, Int.toNat_natCast]
theorem seg_one {b : List Int} {k : Nat} (h : k < b.length) : seg b k 1 = [b[k]] := by
  unfold seg
  rw [List.take_one, List.head?_drop, List.getElem?_eq_getElem h]
  rfl
theorem SB.cell {w0 w : World} {L : List As} {g n c : Nat} {xs : List Int} (h : SB w0 w (Row (Kd.int .u8) 5 (.slice (some ⟨g, 0, none⟩) n c) xs :: L)) {i : Nat} (hi : i < xs.length) : w.cell? ⟨g, i, none⟩ = some (.int .u8 xs[i]) := by
  obtain ⟨F, hF, _⟩ := h.head
  obtain ⟨rfl, _⟩ := Kd.R_reads' hF.1
  have := (Kd.R_celln 0 hF.1 (i : Int) (by omega) (by omega)).1
  rw [Int.toNat_natCast, rdOf_get hi] at this
  exact this
set_option maxHeartbeats 4000000 in
theorem memorySums (at_ c : Int) (b : List Int) (Ab : Option Addr) (cb : Nat) (w : World) (hG : Globs w) (hC : Kd.C (Kd.int .u8) w Ab b.length b) (hcb : b.length ≤ cb) (hbo : Oct b) (hbl : (b.length : Int) ≤ 9223372036854775807) (hc : 0 ≤ c ∧ c < 256) :
    Calls Tryd.prog 6 #[.int .i64 at_, .int .u8 c, .slice Ab b.length cb] w fun e w' => e = .returned (.bool true) ∧ Below w.heap.size w w' := by
  have HG := Aside0.mk hG
  have HC := Aside0.mk hC
  have HBO := Aside0.mk hbo
  have HCC := Aside0.mk hc
  clear hG hC hbo hc
  by_cases c0 : (300 : Int) < (b.length : Int)
  · have d0 : decide ((300 : Int) < (b.length : Int)) = true := decide_eq_true c0
    have d0' : decide (300 < b.length) = true := decide_eq_true (by omega)
    go_enter Tryd.func6, Tryd.ntmps6
    go_wp2_with (go_at_call 9; (with_reducible refine (awake _ HG.out).mono ?_); rintro e w1 ⟨rfl, hb⟩; have HB := Aside0.mk hb; clear hb)
    go_ret
    exact ⟨rfl, HB.out⟩
  · have d0 : decide ((300 : Int) < (b.length : Int)) = false := decide_eq_false c0
    have d0' : decide (300 < b.length) = false := decide_eq_false (by omega)
    obtain ⟨k, hk, hk2⟩ := and_lowi at_ 65535 (by decide)
    replace hk : bits .and .i64 at_ 65535 = (k : Int) := hk
    have hwk : IntKind.u64.wrap (k : Int) = (k : Int) := by rw [wrap_u64_]; omega
    have hwc : IntKind.u64.wrap c = c := by rw [wrap_u64_]; have := HCC.out; omega
    have hfit : 9 + b.length ≤ b0.length := by rw [b0_len]; omega
    obtain ⟨b1, hb1⟩ : ∃ b1, b1 = splice b0 9 b := ⟨_, rfl⟩
    have HL1 := Aside0.mk (show mLay b0 (9 : Int) b = some b1 by rw [hb1]; exact mLay_some (a := 9) hfit)
    have hl1 : b1.length = 65536 := by rw [hb1, splice_length hfit, b0_len]
    have ho1 : Oct b1 := by rw [hb1]; exact splice_oct b0_oct HBO.out
    have HGD := Aside0.mk (show Good ⟨b1, 1, 0, false⟩ from ⟨ho1, by show b1.length ≤ _; rw [hl1]; decide⟩)
    have hkl : k < b1.length := by omega
    obtain ⟨x, hx⟩ : ∃ x, x = b1[k] := ⟨_, rfl⟩
    have HSG := Aside0.mk (show mBytes b1 k 1 = [x] by rw [hx, ← seg_one hkl]; exact mBytes_seg (n := 1) (by omega))
    obtain ⟨b2, hb2⟩ : ∃ b2, b2 = splice b1 k [c] := ⟨_, rfl⟩
    have HST := Aside0.mk (show mStore b1 58 k 0 c = some b2 by rw [hb2]; exact mStore_one hk2 hl1 HCC.out)
    have hl2 : b2.length = 65536 := by rw [hb2, splice_length (by simp; omega), hl1]
    have HGD2 := Aside0.mk (show Good ⟨b2, 1, 0, false⟩ from ⟨by show Oct b2; rw [hb2]; exact splice_oct ho1 (fun y hy => by rw [List.mem_singleton.1 hy]; exact HCC.out), by show b2.length ≤ _; rw [hl2]; decide⟩)
    have hsum : (mSum b2 == mSum b1) = (x == c) := by
      rw [hb2, hx, Bool.eq_iff_iff, beq_iff_eq, beq_iff_eq]
      exact mSum_put ho1 HCC.out hkl
    have hxx : ((x == c) == (x == c)) = true := beq_self_eq_true _
    have hss : (mSum b1 == mSum b1) = true := beq_self_eq_true _
    obtain ⟨cc, hcc⟩ : ∃ cc, cc = (x == c) := ⟨_, rfl⟩
    rw [← hcc] at hsum hxx
    have hcc' : (x == c) = cc := hcc.symm
    clear hcc hfit hb1 hl1 ho1 hkl hx hb2 hl2
    go_enter Tryd.func6, Tryd.ntmps6
    go_wp2_with (first
      | (go_at_call 9; (with_reducible refine (awake _ HG.out).mono ?_); rintro e w1 ⟨rfl, hb⟩; have HB := Aside0.mk hb; clear hb)
      | (go_at_call 10; (with_reducible refine (memNew1 ((SB.start w).below HB.out)).mono ?_); rintro e w2 ⟨p1, rfl, hs⟩; have HS := Aside0.mk hs; clear hs)
      | (go_at_call 10; (with_reducible refine (memNew1 HS.out).mono ?_); rintro e w3 ⟨p2, rfl, hs⟩; have HS2 := Aside0.mk hs; clear hs)
      | (go_at_call 15; (with_reducible refine (memLayH (p := p1) HS2.out (good0 _ _ _) 9 b Ab cb (by omega) (Kd.C_below HC.out HS2.out.bel) hbl HL1.out).mono ?_); rintro e w4 ⟨rfl, hs⟩; have HS3 := Aside0.mk hs; clear hs)
      | (go_at_call 15; (with_reducible refine (memLayH (p := p2) HS3.out (good0 _ _ _) 9 b Ab cb (by omega) (Kd.C_below HC.out HS3.out.bel) hbl HL1.out).mono ?_); rintro e w5 ⟨rfl, hs⟩; have HS4 := Aside0.mk hs; clear hs)
      | (go_at_call 18; (with_reducible refine (memSumH (p := p1) HS4.out HGD.out).mono ?_); rintro e w6 ⟨rfl, hs⟩; have HS5 := Aside0.mk hs; clear hs)
      | (go_at_call 18; (with_reducible refine (memSumH (p := p2) HS5.out HGD.out).mono ?_); rintro e w7 ⟨rfl, hs⟩; have HS6 := Aside0.mk hs; clear hs)
      | (go_at_call 16; (with_reducible refine (memBytesH (p := p1) HS6.out HGD.out k 1 (by omega) (by omega) HSG.out).mono ?_); rintro e w8 ⟨v, rfl, hs⟩; have HS7 := Aside0.mk hs; clear hs; obtain ⟨F7, hF7, _⟩ := HS7.out.head; obtain ⟨g7, c7, rfl, _⟩ := Kd.R_form hF7.1 (Nat.zero_lt_succ _); clear hF7)
      | (go_at_call 11; (with_reducible refine (memStoreH (p := p1) HS7.out (HG.out.below HS7.out.bel) HGD.out 58 k 0 c (by decide) (by omega) (by decide) (by have := HCC.out; omega) HST.out).mono ?_); rintro e w9 ⟨rfl, hs⟩; have HS8 := Aside0.mk hs; clear hs))
    have hs9 := HS8.out.drew
    refine rg_start (n := 21) (S := fun w' => SB w w' [Row (Kd.int .u8) 5 (.slice (some ⟨g7, 0, none⟩) [x].length c7) [x], MO p2 ⟨b1, 1, 0, false⟩, MO p1 ⟨b2, 1, 0, false⟩]) (bm 21 0) (by kernel_rfl) rfl (by kernel_rfl) (hs9) (fun hHeld => ?_)
    refine rg_take (i := 0) (N := some 64) (v := ?_) (a' := ?_) (bm 21 1) rfl rfl (by kernel_rfl) (fun _ _ _ h => h) hHeld (Or.inl ⟨by rfl, ?_⟩) ?_ ?_
    rotate_left
    · intro w' hw'
      go_simp
      with_reducible rfl
    rotate_left
    · simp only [Act.put, List.setIfInBounds_toArray, List.set_cons_zero, List.set_cons_succ]
      rfl
    refine rg_take (i := 1) (N := some 65) (v := ?_) (a' := ?_) (bm 21 3) rfl rfl (by kernel_rfl) (fun _ _ _ h => h) hHeld (Or.inl ⟨by rfl, ?_⟩) ?_ ?_
    rotate_left
    · intro w' hw'
      go_simp
      with_reducible rfl
    rotate_left
    · simp only [Act.put, List.setIfInBounds_toArray, List.set_cons_zero, List.set_cons_succ]
      rfl
    refine rg_take (i := 2) (N := some 66) (v := ?_) (a' := ?_) (bm 21 7) rfl rfl (by kernel_rfl) (fun _ _ _ h => h) hHeld (Or.inl ⟨by rfl, ?_⟩) ?_ ?_
    rotate_left
    · intro w' hw'
      go_simp
      with_reducible rfl
    rotate_left
    · simp only [Act.put, List.setIfInBounds_toArray, List.set_cons_zero, List.set_cons_succ]
      rfl
    refine rg_take (i := 3) (N := some 67) (v := ?_) (a' := ?_) (bm 21 15) rfl rfl (by kernel_rfl) (fun _ _ _ h => h) hHeld (Or.inl ⟨by rfl, ?_⟩) ?_ ?_
    rotate_left
    · intro w' hw'
      go_simp
      with_reducible rfl
    rotate_left
    · simp only [Act.put, List.setIfInBounds_toArray, List.set_cons_zero, List.set_cons_succ]
      rfl
    refine rg_take (i := 4) (N := some 68) (v := ?_) (a' := ?_) (bm 21 31) rfl rfl (by kernel_rfl) (fun _ _ _ h => h) hHeld (Or.inl ⟨by rfl, ?_⟩) ?_ ?_
    rotate_left
    · intro w' hw'
      go_simp
      with_reducible rfl
    rotate_left
    · simp only [Act.put, List.setIfInBounds_toArray, List.set_cons_zero, List.set_cons_succ]
      rfl
    refine rg_take (i := 5) (N := some 69) (v := ?_) (a' := ?_) (bm 21 63) rfl rfl (by kernel_rfl) (fun _ _ _ h => h) hHeld (Or.inl ⟨by rfl, ?_⟩) ?_ ?_
    rotate_left
    · intro w' hw'
      go_simp
      with_reducible rfl
    rotate_left
    · simp only [Act.put, List.setIfInBounds_toArray, List.set_cons_zero, List.set_cons_succ]
      rfl
    refine rg_take (i := 6) (N := some 70) (v := ?_) (a' := ?_) (bm 21 127) rfl rfl (by kernel_rfl) (fun _ _ _ h => h) hHeld (Or.inl ⟨by rfl, ?_⟩) ?_ ?_
    rotate_left
    · intro w' hw'
      go_simp
      with_reducible rfl
    rotate_left
    · simp only [Act.put, List.setIfInBounds_toArray, List.set_cons_zero, List.set_cons_succ]
      rfl
    refine rg_take (i := 7) (N := some 71) (v := ?_) (a' := ?_) (bm 21 255) rfl rfl (by kernel_rfl) (fun _ _ _ h => h) hHeld (Or.inl ⟨by rfl, ?_⟩) ?_ ?_
    rotate_left
    · intro w' hw'
      go_simp
      with_reducible rfl
    rotate_left
    · simp only [Act.put, List.setIfInBounds_toArray, List.set_cons_zero, List.set_cons_succ]
      rfl
    refine rg_take (i := 8) (N := some 72) (v := ?_) (a' := ?_) (bm 21 511) rfl rfl (by kernel_rfl) (fun _ _ _ h => h) hHeld (Or.inl ⟨by rfl, ?_⟩) ?_ ?_
    rotate_left
    · intro w' hw'
      go_simp
      with_reducible rfl
    rotate_left
    · simp only [Act.put, List.setIfInBounds_toArray, List.set_cons_zero, List.set_cons_succ]
      rfl
    refine rg_take (i := 10) (N := some 74) (v := ?_) (a' := ?_) (bm 21 1535) rfl rfl (by kernel_rfl) (fun _ _ _ h => h) hHeld (Or.inl ⟨by rfl, ?_⟩) ?_ ?_
    rotate_left
    · intro w' hw'
      go_simp
      with_reducible rfl
    rotate_left
    · simp only [Act.put, List.setIfInBounds_toArray, List.set_cons_zero, List.set_cons_succ]
      rfl
    refine rg_take (i := 13) (N := some 77) (v := ?_) (a' := ?_) (bm 21 9727) rfl rfl (by kernel_rfl) (fun _ _ _ h => h) hHeld (Or.inl ⟨by rfl, ?_⟩) ?_ ?_
    rotate_left
    · intro w' hw'
      go_simp
      with_reducible rfl
    rotate_left
    · simp only [Act.put, List.setIfInBounds_toArray, List.set_cons_zero, List.set_cons_succ]
      rfl
    refine rg_take (i := 14) (N := some 78) (v := ?_) (a' := ?_) (bm 21 26111) rfl rfl (by kernel_rfl) (fun _ _ _ h => h) hHeld (Or.inl ⟨by rfl, ?_⟩) ?_ ?_
    rotate_left
    · intro w' hw'
      go_simp
      with_reducible rfl
    rotate_left
    · simp only [Act.put, List.setIfInBounds_toArray, List.set_cons_zero, List.set_cons_succ]
      rfl
    refine rg_take (i := 15) (N := some 79) (v := ?_) (a' := ?_) (bm 21 58879) rfl rfl (by kernel_rfl) (fun _ _ _ h => h) hHeld (Or.inl ⟨by rfl, ?_⟩) ?_ ?_
    rotate_left
    · intro w' hw'
      have hc := SB.cell hw' (i := 0) (Nat.zero_lt_succ _)
      simp only [List.getElem_cons_zero] at hc
      go_simp
      with_reducible rfl
    rotate_left
    · simp only [Act.put, List.setIfInBounds_toArray, List.set_cons_zero, List.set_cons_succ]
      rfl
    refine rg_take (i := 16) (N := some 80) (v := ?_) (a' := ?_) (bm 21 124415) rfl rfl (by kernel_rfl) (fun _ _ _ h => h) hHeld (Or.inl ⟨by rfl, ?_⟩) ?_ ?_
    rotate_left
    · intro w' hw'
      go_simp
      with_reducible rfl
    rotate_left
    · simp only [Act.put, List.setIfInBounds_toArray, List.set_cons_zero, List.set_cons_succ]
      rfl
    refine rg_take (i := 17) (N := some 81) (v := ?_) (a' := ?_) (bm 21 255487) rfl rfl (by kernel_rfl) (fun _ _ _ h => h) hHeld (Or.inl ⟨by rfl, ?_⟩) ?_ ?_
    rotate_left
    · intro w' hw'
      go_simp
      with_reducible rfl
    rotate_left
    · simp only [Act.put, List.setIfInBounds_toArray, List.set_cons_zero, List.set_cons_succ]
      rfl
    refine rg_ready [9] (by kernel_rfl) (by simp) ?_
    refine rg_one (i := 9) (N := some 73) (bm 21 255999) rfl rfl (by kernel_rfl) (fun K hK => ?_) rg_nil
    go_simp
    go_at_call 18
    with_reducible refine (memSumH (p := p1) hHeld HGD2.out).mono ?_
    rintro e wx9r14 ⟨rfl, hnew⟩
    go_wp2_with fail
    refine hK.out _ _ hnew ?_
    clear hK K
    refine rg_norm (a' := ?_) ?_ ?_
    rotate_left
    · simp only [Act.put, List.setIfInBounds_toArray, List.set_cons_zero, List.set_cons_succ]
      rfl
    clear hHeld
    have hHeld := hnew
    clear hnew
    refine rg_ready [11] (by kernel_rfl) (by simp) ?_
    refine rg_one (i := 11) (N := some 75) (bm 21 258047) rfl rfl (by kernel_rfl) (fun K hK => ?_) rg_nil
    go_simp
    go_at_call 18
    with_reducible refine (memSumH (p := p2) hHeld HGD.out).mono ?_
    rintro e wx9x11r14 ⟨rfl, hnew⟩
    go_wp2_with fail
    refine hK.out _ _ hnew ?_
    clear hK K
    refine rg_norm (a' := ?_) ?_ ?_
    rotate_left
    · simp only [Act.put, List.setIfInBounds_toArray, List.set_cons_zero, List.set_cons_succ]
      rfl
    clear hHeld
    have hHeld := hnew
    clear hnew
    refine rg_take (i := 12) (N := some 76) (v := ?_) (a' := ?_) (bm 21 262143) rfl rfl (by kernel_rfl) (fun _ _ _ h => h) hHeld (Or.inl ⟨by rfl, ?_⟩) ?_ ?_
    rotate_left
    · intro w' hw'
      go_simp
      with_reducible rfl
    rotate_left
    · simp only [Act.put, List.setIfInBounds_toArray, List.set_cons_zero, List.set_cons_succ]
      rfl
    refine rg_take (i := 18) (N := some 82) (v := ?_) (a' := ?_) (bm 21 524287) rfl rfl (by kernel_rfl) (fun _ _ _ h => h) hHeld (Or.inl ⟨by rfl, ?_⟩) ?_ ?_
    rotate_left
    · intro w' hw'
      go_simp
      with_reducible rfl
    rotate_left
    · simp only [Act.put, List.setIfInBounds_toArray, List.set_cons_zero, List.set_cons_succ]
      rfl
    refine rg_take (i := 19) (N := some 83) (v := ?_) (a' := ?_) (bm 21 1048575) rfl rfl (by kernel_rfl) (fun _ _ _ h => h) hHeld (Or.inl ⟨by rfl, ?_⟩) ?_ ?_
    rotate_left
    · intro w' hw'
      go_simp
      with_reducible rfl
    rotate_left
    · simp only [Act.put, List.setIfInBounds_toArray, List.set_cons_zero, List.set_cons_succ]
      rfl
    refine rg_take (i := 20) (N := some 6) (v := ?_) (a' := ?_) (bm 21 2097151) rfl rfl (by kernel_rfl) (fun _ _ _ h => h) hHeld (Or.inl ⟨by rfl, ?_⟩) ?_ ?_
    rotate_left
    · intro w' hw'
      go_simp
      with_reducible rfl
    rotate_left
    · simp only [Act.put, List.setIfInBounds_toArray, List.set_cons_zero, List.set_cons_succ]
      rfl
    refine rg_done (by kernel_rfl) ?_
    go_wp2
    go_ret
    exact ⟨rfl, SB.bel hHeld⟩
def avocetlaw13_MemorySums.f (a0 : Int) (a1 : Int) (l2 : List Int) : Option (Bool) := if okB l2 && decide (0 ≤ a1) && decide (a1 < 256) then some true else none
theorem avocetlaw13_MemorySums.calls (a0 : Int) (a1 : Int) (A2 : Option Addr) (c2 : Nat) (l2 : List Int) (r : Bool) (w : World) (hG : Globs w) (hr2 : Kd.C (Kd.int .u8) w A2 l2.length l2) (hc2 : l2.length ≤ c2) (hr_ : r = true) (h : avocetlaw13_MemorySums.f a0 a1 l2 = some r) :
    Calls Tryd.prog 6 #[.int .i64 a0, .int .u8 a1, .slice A2 l2.length c2] w fun e w' => e = .returned (.bool r) ∧ Below w.heap.size w w' := by
  subst hr_
  unfold avocetlaw13_MemorySums.f at h
  split at h
  · rename_i hb
    simp only [Bool.and_eq_true, decide_eq_true_eq] at hb
    obtain ⟨h1, h2⟩ := okB_iff.1 hb.1.1
    exact memorySums a0 a1 l2 A2 c2 w hG hr2 hc2 h1 (by omega) ⟨hb.1.2, hb.2⟩
  · cases h
end Go.Proofs.YtffoolhfjomhhaaDoor.G

