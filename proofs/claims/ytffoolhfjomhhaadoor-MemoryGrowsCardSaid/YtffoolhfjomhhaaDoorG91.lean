/- The law MemoryApart walked. -/
import Derived.Test.YtffoolhfjomhhaaDoorG
import Derived.Test.YtffoolhfjomhhaaDoorG90
import Derived.Test.YtffoolhfjomhhaaDoorMemH
namespace Go.Proofs.YtffoolhfjomhhaaDoor.G
open Go.RowKit Go.Proofs.YtffoolhfjomhhaaDoorW.PrintWords Go.Proofs.YtffoolhfjomhhaaDoorW.PrintLast Go.Proofs.YtffoolhfjomhhaaDoorW.PrintMore
attribute [local go_sem] max2_int min2_int max_two min_two max_three min_three max_four min_four   -- for this text's walks alone
set_option linter.unusedVariables false
set_option linter.unusedSimpArgs false
theorem mLay_some {b l : List Int} {a : Nat} (h : a + l.length ≤ b.length) : mLay b a l = some (splice b a l) := by
  unfold mLay
  rw [if_pos (by omega), Int.toNat_natCast]
theorem memLayS {w0 w : World} {L : List As} {p : Nat} {b b' : List Int} {lo hi : Int} {has : Bool} (hS : SB w0 w (MO p ⟨b, lo, hi, has⟩ :: L)) (hm : Good ⟨b, lo, hi, has⟩) (at_ : Int) (l : List Int) (Ab : Option Addr) (cb : Nat) (ha : -9223372036854775808 ≤ at_ ∧ at_ < 9223372036854775808) (hC : Kd.C (Kd.int .u8) w Ab l.length l) (hl : (l.length : Int) ≤ 9223372036854775807) (h : mLay b at_ l = some b') :
    Calls Tryd.prog 15 #[.pointer (some ⟨p, 0, none⟩), .int .i64 at_, .slice Ab l.length cb] w fun e w' => e = .returned (.bool true) ∧ SB w0 w' (MO p ⟨b', lo, hi, has⟩ :: L) := by
  have := memLay hS hm at_ l Ab cb ha hC hl
  simp only [h, Option.isSome_some, Option.getD_some] at this
  exact this
theorem memBytesS {w0 w : World} {L : List As} {p : Nat} {b l : List Int} {lo hi : Int} {has : Bool} (hS : SB w0 w (MO p ⟨b, lo, hi, has⟩ :: L)) (hm : Good ⟨b, lo, hi, has⟩) (at_ n : Int) (ha : -9223372036854775808 ≤ at_ ∧ at_ < 9223372036854775808) (hn : -9223372036854775808 ≤ n ∧ n < 9223372036854775808) (h : mBytes b at_ n = l) :
    Calls Tryd.prog 16 #[.pointer (some ⟨p, 0, none⟩), .int .i64 at_, .int .i64 n] w fun e w' => ∃ v, e = .returned v ∧ SB w0 w' (Row (Kd.int .u8) 5 v l :: MO p ⟨b, lo, hi, has⟩ :: L) := by
  have := memBytes hS hm at_ n ha hn
  simp only [h] at this
  exact this
theorem mBytes_seg {b : List Int} {a n : Nat} (h : a + n ≤ b.length) : mBytes b a n = seg b a n := by
  unfold mBytes
  rw [if_pos (by omega), Int.toNat_natCast, Int.toNat_natCast]
/-- A byte of one's own row is written. -/
theorem SB.put {w0 w : World} {L : List As} {g n c : Nat} {xs : List Int} (h : SB w0 w (Row (Kd.int .u8) 5 (.slice (some ⟨g, 0, none⟩) n c) xs :: L)) (i : Nat) (x : Int) : SB w0 (w.setCell ⟨g, i, none⟩ (.int .u8 x)) (Row (Kd.int .u8) 5 (.slice (some ⟨g, 0, none⟩) n c) (xs.set i x) :: L) := by
  refine h.upd (fun F hF _ => ⟨F, ⟨?_, fun k hk => ?_⟩, (Fr.refl w F).setCell (p := ⟨g, i, none⟩) (.inl (hF.1.1 g (by simp [Value.ownBlock]))) _, fun k hk => .inl hk⟩)
  · exact Kd.R_putn hF.1 (i : Int) x
  · have := hF.2 k hk
    simpa [World.setCell] using this
theorem seg0 {a n : Nat} (h : a + n ≤ 65536) : seg b0 a n = List.replicate n 0 := by
  unfold seg
  rw [show b0 = List.replicate 65536 0 from by unfold b0; rfl, List.drop_replicate, List.take_replicate]
  congr 1
  omega
set_option maxHeartbeats 4000000 in
theorem memoryApart (at_ : Int) (b : List Int) (Ab : Option Addr) (cb : Nat) (w : World) (hG : Globs w) (hC : Kd.C (Kd.int .u8) w Ab b.length b) (hcb : b.length ≤ cb) (hbo : Oct b) (hbl : (b.length : Int) ≤ 9223372036854775807) :
    Calls Tryd.prog 5 #[.int .i64 at_, .slice Ab b.length cb] w fun e w' => e = .returned (.bool true) ∧ Below w.heap.size w w' := by
  have HG := Aside0.mk hG
  have HC := Aside0.mk hC
  have HBO := Aside0.mk hbo
  clear hG hC hbo
  by_cases c0 : (300 : Int) < (b.length : Int)
  · have d0 : decide ((300 : Int) < (b.length : Int)) = true := decide_eq_true c0
    have d0' : decide (300 < b.length) = true := decide_eq_true (by omega)
    go_enter Tryd.func5, Tryd.ntmps5
    go_wp2_with (go_at_call 9; (with_reducible refine (awake _ HG.out).mono ?_); rintro e w1 ⟨rfl, hb⟩; have HB := Aside0.mk hb; clear hb)
    go_ret
    exact ⟨rfl, HB.out⟩
  · have d0 : decide ((300 : Int) < (b.length : Int)) = false := decide_eq_false c0
    have d0' : decide (300 < b.length) = false := decide_eq_false (by omega)
    obtain ⟨a, ha, ha2⟩ := and_lowi at_ 32767 (by decide)
    replace ha : bits .and .i64 at_ 32767 = (a : Int) := ha
    have hfit : a + b.length ≤ b0.length := by rw [b0_len]; omega
    have HL1 := Aside0.mk (mLay_some hfit)
    have hgd : Good ⟨splice b0 a b, 1, 0, false⟩ := ⟨splice_oct b0_oct HBO.out, by show (splice b0 a b).length ≤ _; rw [splice_length hfit, b0_len]; decide⟩
    have HGD := Aside0.mk hgd
    have hseg : mBytes (splice b0 a b) a b.length = b := by rw [mBytes_seg (by rw [splice_length hfit]; exact hfit)]; exact seg_splice hfit
    have HSG := Aside0.mk hseg
    clear hgd hseg hfit
    go_enter Tryd.func5, Tryd.ntmps5
    go_wp2_with (first
      | (go_at_call 9; (with_reducible refine (awake _ HG.out).mono ?_); rintro e w1 ⟨rfl, hb⟩; have HB := Aside0.mk hb; clear hb)
      | (go_at_call 10; (with_reducible refine (memNew1 ((SB.start w).below HB.out)).mono ?_); rintro e w2 ⟨p1, rfl, hs⟩; have HS := Aside0.mk hs; clear hs)
      | (go_at_call 10; (with_reducible refine (memNew1 HS.out).mono ?_); rintro e w3 ⟨p2, rfl, hs⟩; have HS2 := Aside0.mk hs.swap; clear hs)
      | (go_at_call 15; (with_reducible refine (memLayS HS2.out (good0 _ _ _) a b Ab cb (by omega) (Kd.C_below HC.out HS2.out.bel) hbl HL1.out).mono ?_); rintro e w4 ⟨rfl, hs⟩; have HS3 := Aside0.mk hs; clear hs)
      | (go_at_call 16; (with_reducible refine (memBytesS HS3.out HGD.out a b.length (by omega) (by omega) HSG.out).mono ?_); rintro e w5 ⟨v, rfl, hs⟩; have HS4 := Aside0.mk hs; clear hs))
    obtain ⟨Av, cv, rfl, hcv, _⟩ := HS4.out.reads
    go_loopw [13] (fun v13 wr => ∃ (i : Nat) (xs : List Int), v13 = .int .i64 i ∧ i ≤ b.length ∧ xs.length = b.length ∧ Aside0 (SB w wr [Row (Kd.int .u8) 5 (.slice Av b.length cv) xs, MO p1 ⟨splice b0 a b, 1, 0, false⟩, MO p2 ⟨b0, 1, 0, false⟩])) (fun v13 _ => b.length - (intOf v13).toNat)
    case atStart => exact ⟨0, b, rfl, Nat.zero_le _, rfl, HS4⟩
    case round =>
      obtain ⟨i, xs, rfl, hi, hxl, HW⟩ := hrel
      by_cases hlt : i < b.length
      · have e1 : decide ((i : Int) < (b.length : Int)) = true := decide_eq_true (by omega)
        have e2 : decide (i < b.length) = true := decide_eq_true hlt
        obtain ⟨F, hF, _⟩ := HW.out.head
        obtain ⟨g, cap, hv, _, _, _⟩ := Kd.R_form hF.1 (by omega)
        have hA : Av = some ⟨g, 0, none⟩ := by injection hv
        clear hv
        subst hA
        obtain ⟨hx, hfz⟩ := Kd.R_celln 0 hF.1 (i : Int) (by omega) (by omega)
        simp only [Int.toNat_natCast] at hx hfz
        clear hF
        have HXL := Aside0.mk hxl
        clear hxl
        go_wp2
        exact ⟨⟨i + 1, xs.set i _, rfl, by omega, by rw [List.length_set]; exact HXL.out, ⟨HW.out.put i _⟩⟩, by simp [intOf]; omega⟩
      · have e1 : decide ((i : Int) < (b.length : Int)) = false := decide_eq_false (by omega)
        have e2 : decide (i < b.length) = false := decide_eq_false hlt
        have hSW := HW.out.drop.drew
        have hmk := make_run b.length (by omega)
        have hz : mBytes b0 a b.length = List.replicate b.length 0 := by
          rw [mBytes_seg (by rw [b0_len]; omega)]
          exact seg0 (by omega)
        have HZ := Aside0.mk hz
        have hcbb : ∀ W : World, Below w.heap.size w W → (convert 39 9 (.slice Ab b.length cb)).run Tryd.prog W = .ok (.string (strOfNums b)) W := fun W hb => Kd.C_string (P := Tryd.prog) Tryd.underlying39 Tryd.underlying5 Tryd.underlying9 (Kd.C_below HC.out hb)
        clear hz
        go_wp2
        refine rg_start (n := 37) (S := fun w' => SB w w' [MO p1 ⟨splice b0 a b, 1, 0, false⟩, MO p2 ⟨b0, 1, 0, false⟩]) (bm 37 0) (by kernel_rfl) rfl (by kernel_rfl) (hSW) (fun hHeld => ?_)
        refine rg_take (i := 0) (N := some 54) (v := ?_) (a' := ?_) (bm 37 1) rfl rfl (by kernel_rfl) (fun _ _ _ h => h) hHeld (Or.inl ⟨by rfl, ?_⟩) ?_ ?_
        rotate_left
        · intro w' hw'
          go_simp
          with_reducible rfl
        rotate_left
        · simp only [Act.put, List.setIfInBounds_toArray, List.set_cons_zero, List.set_cons_succ]
          rfl
        refine rg_take (i := 1) (N := some 55) (v := ?_) (a' := ?_) (bm 37 3) rfl rfl (by kernel_rfl) (fun _ _ _ h => h) hHeld (Or.inl ⟨by rfl, ?_⟩) ?_ ?_
        rotate_left
        · intro w' hw'
          go_simp
          with_reducible rfl
        rotate_left
        · simp only [Act.put, List.setIfInBounds_toArray, List.set_cons_zero, List.set_cons_succ]
          rfl
        refine rg_take (i := 2) (N := some 56) (v := ?_) (a' := ?_) (bm 37 7) rfl rfl (by kernel_rfl) (fun _ _ _ h => h) hHeld (Or.inl ⟨by rfl, ?_⟩) ?_ ?_
        rotate_left
        · intro w' hw'
          go_simp
          with_reducible rfl
        rotate_left
        · simp only [Act.put, List.setIfInBounds_toArray, List.set_cons_zero, List.set_cons_succ]
          rfl
        refine rg_take (i := 3) (N := some 57) (v := ?_) (a' := ?_) (bm 37 15) rfl rfl (by kernel_rfl) (fun _ _ _ h => h) hHeld (Or.inl ⟨by rfl, ?_⟩) ?_ ?_
        rotate_left
        · intro w' hw'
          go_simp
          with_reducible rfl
        rotate_left
        · simp only [Act.put, List.setIfInBounds_toArray, List.set_cons_zero, List.set_cons_succ]
          rfl
        refine rg_take (i := 4) (N := some 58) (v := ?_) (a' := ?_) (bm 37 31) rfl rfl (by kernel_rfl) (fun _ _ _ h => h) hHeld (Or.inl ⟨by rfl, ?_⟩) ?_ ?_
        rotate_left
        · intro w' hw'
          go_simp
          with_reducible rfl
        rotate_left
        · simp only [Act.put, List.setIfInBounds_toArray, List.set_cons_zero, List.set_cons_succ]
          rfl
        refine rg_take (i := 5) (N := some 59) (v := ?_) (a' := ?_) (bm 37 63) rfl rfl (by kernel_rfl) (fun _ _ _ h => h) hHeld (Or.inl ⟨by rfl, ?_⟩) ?_ ?_
        rotate_left
        · intro w' hw'
          go_simp
          with_reducible rfl
        rotate_left
        · simp only [Act.put, List.setIfInBounds_toArray, List.set_cons_zero, List.set_cons_succ]
          rfl
        refine rg_take (i := 6) (N := some 60) (v := ?_) (a' := ?_) (bm 37 127) rfl rfl (by kernel_rfl) (fun _ _ _ h => h) hHeld (Or.inl ⟨by rfl, ?_⟩) ?_ ?_
        rotate_left
        · intro w' hw'
          go_simp
          with_reducible rfl
        rotate_left
        · simp only [Act.put, List.setIfInBounds_toArray, List.set_cons_zero, List.set_cons_succ]
          rfl
        refine rg_take (i := 7) (N := some 61) (v := ?_) (a' := ?_) (bm 37 255) rfl rfl (by kernel_rfl) (fun _ _ _ h => h) hHeld (Or.inl ⟨by rfl, ?_⟩) ?_ ?_
        rotate_left
        · intro w' hw'
          go_simp
          with_reducible rfl
        rotate_left
        · simp only [Act.put, List.setIfInBounds_toArray, List.set_cons_zero, List.set_cons_succ]
          rfl
        refine rg_take (i := 8) (N := some 62) (v := ?_) (a' := ?_) (bm 37 511) rfl rfl (by kernel_rfl) (fun _ _ _ h => h) hHeld (Or.inl ⟨by rfl, ?_⟩) ?_ ?_
        rotate_left
        · intro w' hw'
          go_simp
          with_reducible rfl
        rotate_left
        · simp only [Act.put, List.setIfInBounds_toArray, List.set_cons_zero, List.set_cons_succ]
          rfl
        refine rg_take (i := 9) (N := some 63) (v := ?_) (a' := ?_) (bm 37 1023) rfl rfl (by kernel_rfl) (fun _ _ _ h => h) hHeld (Or.inl ⟨by rfl, ?_⟩) ?_ ?_
        rotate_left
        · intro w' hw'
          go_simp
          with_reducible rfl
        rotate_left
        · simp only [Act.put, List.setIfInBounds_toArray, List.set_cons_zero, List.set_cons_succ]
          rfl
        refine rg_take (i := 10) (N := some 64) (v := ?_) (a' := ?_) (bm 37 2047) rfl rfl (by kernel_rfl) (fun _ _ _ h => h) hHeld (Or.inl ⟨by rfl, ?_⟩) ?_ ?_
        rotate_left
        · intro w' hw'
          go_simp
          with_reducible rfl
        rotate_left
        · simp only [Act.put, List.setIfInBounds_toArray, List.set_cons_zero, List.set_cons_succ]
          rfl
        refine rg_take (i := 11) (N := some 65) (v := ?_) (a' := ?_) (bm 37 4095) rfl rfl (by kernel_rfl) (fun _ _ _ h => h) hHeld (Or.inl ⟨by rfl, ?_⟩) ?_ ?_
        rotate_left
        · intro w' hw'
          go_simp
          with_reducible rfl
        rotate_left
        · simp only [Act.put, List.setIfInBounds_toArray, List.set_cons_zero, List.set_cons_succ]
          rfl
        refine rg_take (i := 12) (N := some 66) (v := ?_) (a' := ?_) (bm 37 8191) rfl rfl (by kernel_rfl) (fun _ _ _ h => h) hHeld (Or.inl ⟨by rfl, ?_⟩) ?_ ?_
        rotate_left
        · intro w' hw'
          go_simp
          with_reducible rfl
        rotate_left
        · simp only [Act.put, List.setIfInBounds_toArray, List.set_cons_zero, List.set_cons_succ]
          rfl
        refine rg_take (i := 13) (N := some 67) (v := ?_) (a' := ?_) (bm 37 16383) rfl rfl (by kernel_rfl) (fun _ _ _ h => h) hHeld (Or.inl ⟨by rfl, ?_⟩) ?_ ?_
        rotate_left
        · intro w' hw'
          go_simp
          with_reducible rfl
        rotate_left
        · simp only [Act.put, List.setIfInBounds_toArray, List.set_cons_zero, List.set_cons_succ]
          rfl
        refine rg_take (i := 14) (N := some 68) (v := ?_) (a' := ?_) (bm 37 32767) rfl rfl (by kernel_rfl) (fun _ _ _ h => h) hHeld (Or.inl ⟨by rfl, ?_⟩) ?_ ?_
        rotate_left
        · intro w' hw'
          go_simp
          with_reducible rfl
        rotate_left
        · simp only [Act.put, List.setIfInBounds_toArray, List.set_cons_zero, List.set_cons_succ]
          rfl
        refine rg_take (i := 15) (N := some 69) (v := ?_) (a' := ?_) (bm 37 65535) rfl rfl (by kernel_rfl) (fun _ _ _ h => h) hHeld (Or.inl ⟨by rfl, ?_⟩) ?_ ?_
        rotate_left
        · intro w' hw'
          go_simp
          with_reducible rfl
        rotate_left
        · simp only [Act.put, List.setIfInBounds_toArray, List.set_cons_zero, List.set_cons_succ]
          rfl
        refine rg_take (i := 16) (N := some 70) (v := ?_) (a' := ?_) (bm 37 131071) rfl rfl (by kernel_rfl) (fun _ _ _ h => h) hHeld (Or.inl ⟨by rfl, ?_⟩) ?_ ?_
        rotate_left
        · intro w' hw'
          go_simp
          with_reducible rfl
        rotate_left
        · simp only [Act.put, List.setIfInBounds_toArray, List.set_cons_zero, List.set_cons_succ]
          rfl
        refine rg_take (i := 19) (N := some 73) (v := ?_) (a' := ?_) (bm 37 655359) rfl rfl (by kernel_rfl) (fun _ _ _ h => h) hHeld (Or.inl ⟨by rfl, ?_⟩) ?_ ?_
        rotate_left
        · intro w' hw'
          go_simp
          with_reducible rfl
        rotate_left
        · simp only [Act.put, List.setIfInBounds_toArray, List.set_cons_zero, List.set_cons_succ]
          rfl
        refine rg_take (i := 20) (N := some 74) (v := ?_) (a' := ?_) (bm 37 1703935) rfl rfl (by kernel_rfl) (fun _ _ _ h => h) hHeld (Or.inl ⟨by rfl, ?_⟩) ?_ ?_
        rotate_left
        · intro w' hw'
          have hc := hcbb w' (SB.bel hw')
          go_simp
          with_reducible rfl
        rotate_left
        · simp only [Act.put, List.setIfInBounds_toArray, List.set_cons_zero, List.set_cons_succ]
          rfl
        refine rg_ready [17] (by kernel_rfl) (by simp) ?_
        refine rg_one (i := 17) (N := some 71) (bm 37 1835007) rfl rfl (by kernel_rfl) (fun K hK => ?_) rg_nil
        go_simp
        go_at_call 16
        with_reducible refine (memBytesH (p := p1) hHeld HGD.out a b.length (by omega) (by omega) HSG.out).mono ?_
        rintro e wx17r13 ⟨v1, rfl, hnew⟩
        go_wp2_with fail
        refine hK.out _ _ hnew.drop ?_
        clear hK K
        refine rg_norm (a' := ?_) ?_ ?_
        rotate_left
        · simp only [Act.put, List.setIfInBounds_toArray, List.set_cons_zero, List.set_cons_succ]
          rfl
        refine rg_sb hnew ?_
        clear hHeld
        have hHeld := hnew
        clear hnew
        refine rg_take (i := 18) (N := some 72) (v := ?_) (a' := ?_) (bm 37 2097151) rfl rfl (by kernel_rfl) (fun _ _ _ h => h) hHeld (Or.inl ⟨by rfl, ?_⟩) ?_ ?_
        rotate_left
        · intro w' hw'
          have hc := SB.str (SB.pick hw' [0])
          go_simp
          with_reducible rfl
        rotate_left
        · simp only [Act.put, List.setIfInBounds_toArray, List.set_cons_zero, List.set_cons_succ]
          rfl
        refine rg_take (i := 21) (N := some 75) (v := ?_) (a' := ?_) (bm 37 4194303) rfl rfl (by kernel_rfl) (fun _ _ _ h => h) hHeld (Or.inl ⟨by rfl, ?_⟩) ?_ ?_
        rotate_left
        · intro w' hw'
          go_simp
          with_reducible rfl
        rotate_left
        · simp only [Act.put, List.setIfInBounds_toArray, List.set_cons_zero, List.set_cons_succ]
          rfl
        refine rg_take (i := 22) (N := some 76) (v := ?_) (a' := ?_) (bm 37 8388607) rfl rfl (by kernel_rfl) (fun _ _ _ h => h) hHeld (Or.inl ⟨by rfl, ?_⟩) ?_ ?_
        rotate_left
        · intro w' hw'
          go_simp
          with_reducible rfl
        rotate_left
        · simp only [Act.put, List.setIfInBounds_toArray, List.set_cons_zero, List.set_cons_succ]
          rfl
        refine rg_take (i := 23) (N := some 77) (v := ?_) (a' := ?_) (bm 37 16777215) rfl rfl (by kernel_rfl) (fun _ _ _ h => h) hHeld (Or.inl ⟨by rfl, ?_⟩) ?_ ?_
        rotate_left
        · intro w' hw'
          go_simp
          with_reducible rfl
        rotate_left
        · simp only [Act.put, List.setIfInBounds_toArray, List.set_cons_zero, List.set_cons_succ]
          rfl
        refine rg_take (i := 24) (N := some 78) (v := ?_) (a' := ?_) (bm 37 33554431) rfl rfl (by kernel_rfl) (fun _ _ _ h => h) hHeld (Or.inl ⟨by rfl, ?_⟩) ?_ ?_
        rotate_left
        · intro w' hw'
          go_simp
          with_reducible rfl
        rotate_left
        · simp only [Act.put, List.setIfInBounds_toArray, List.set_cons_zero, List.set_cons_succ]
          rfl
        refine rg_take (i := 25) (N := some 79) (v := ?_) (a' := ?_) (bm 37 67108863) rfl rfl (by kernel_rfl) (fun _ _ _ h => h) hHeld (Or.inl ⟨by rfl, ?_⟩) ?_ ?_
        rotate_left
        · intro w' hw'
          go_simp
          with_reducible rfl
        rotate_left
        · simp only [Act.put, List.setIfInBounds_toArray, List.set_cons_zero, List.set_cons_succ]
          rfl
        refine rg_take (i := 26) (N := some 80) (v := ?_) (a' := ?_) (bm 37 134217727) rfl rfl (by kernel_rfl) (fun _ _ _ h => h) hHeld (Or.inl ⟨by rfl, ?_⟩) ?_ ?_
        rotate_left
        · intro w' hw'
          go_simp
          with_reducible rfl
        rotate_left
        · simp only [Act.put, List.setIfInBounds_toArray, List.set_cons_zero, List.set_cons_succ]
          rfl
        refine rg_take (i := 27) (N := some 81) (v := ?_) (a' := ?_) (bm 37 268435455) rfl rfl (by kernel_rfl) (fun _ _ _ h => h) hHeld (Or.inl ⟨by rfl, ?_⟩) ?_ ?_
        rotate_left
        · intro w' hw'
          go_simp
          with_reducible rfl
        rotate_left
        · simp only [Act.put, List.setIfInBounds_toArray, List.set_cons_zero, List.set_cons_succ]
          rfl
        refine rg_take (i := 30) (N := some 84) (v := ?_) (a' := ?_) (bm 37 1342177279) rfl rfl (by kernel_rfl) (fun _ _ _ h => h) hHeld (Or.inl ⟨by rfl, ?_⟩) ?_ ?_
        rotate_left
        · intro w' hw'
          go_simp
          with_reducible rfl
        rotate_left
        · simp only [Act.put, List.setIfInBounds_toArray, List.set_cons_zero, List.set_cons_succ]
          rfl
        refine rg_take (i := 31) (N := some 85) (v := ?_) (a' := ?_) (bm 37 3489660927) rfl rfl (by kernel_rfl) (fun _ _ _ h => h) hHeld (Or.inl ⟨by rfl, ?_⟩) ?_ ?_
        rotate_left
        · intro w' hw'
          go_simp
          with_reducible rfl
        rotate_left
        · simp only [Act.put, List.setIfInBounds_toArray, List.set_cons_zero, List.set_cons_succ]
          rfl
        refine rg_ready [28, 32] (by kernel_rfl) (by simp) ?_
        refine rg_one (i := 28) (N := some 82) (bm 37 3758096383) rfl rfl (by kernel_rfl) (fun K hK => ?_) ?_
        · skip
          go_simp
          go_at_call 16
          with_reducible refine (memBytesH (p := p2) hHeld (good0 _ _ _) a b.length (by omega) (by omega) HZ.out).mono ?_
          rintro e wx17x28r13 ⟨v2, rfl, hnew⟩
          go_wp2_with fail
          refine hK.out _ _ hnew.drop ?_
          clear hK K
          refine rg_norm (a' := ?_) ?_ ?_
          rotate_left
          · simp only [Act.put, List.setIfInBounds_toArray, List.set_cons_zero, List.set_cons_succ]
            rfl
          refine rg_sb hnew ?_
          clear hHeld
          have hHeld := hnew
          clear hnew
          refine rg_take (i := 29) (N := some 83) (v := ?_) (a' := ?_) (bm 37 4294967295) rfl rfl (by kernel_rfl) (fun _ _ _ h => h) hHeld (Or.inl ⟨by rfl, ?_⟩) ?_ ?_
          rotate_left
          · intro w' hw'
            have hc := SB.str (SB.pick hw' [0])
            go_simp
            with_reducible rfl
          rotate_left
          · simp only [Act.put, List.setIfInBounds_toArray, List.set_cons_zero, List.set_cons_succ]
            rfl
          refine rg_ready [32] (by kernel_rfl) (by simp) ?_
          refine rg_one (i := 32) (N := some 86) (bm 37 8589934591) rfl rfl (by kernel_rfl) (fun K hK => ?_) rg_nil
          refine value_ (w1 := ?_) (v := ?_) (by rfl) rfl ?_ ?_
          rotate_left 2
          · go_simp
            constructor
            · rfl
            · rfl
          have hnew := SB.made (n := b.length) hHeld (by omega)
          refine hK.out _ _ hnew.drop ?_
          clear hK K
          refine rg_norm (a' := ?_) ?_ ?_
          rotate_left
          · simp only [Act.put, List.setIfInBounds_toArray, List.set_cons_zero, List.set_cons_succ]
            rfl
          refine rg_sb hnew ?_
          clear hHeld
          have hHeld := hnew
          clear hnew
          refine rg_take (i := 33) (N := some 87) (v := ?_) (a' := ?_) (bm 37 17179869183) rfl rfl (by kernel_rfl) (fun _ _ _ h => h) hHeld (Or.inl ⟨by rfl, ?_⟩) ?_ ?_
          rotate_left
          · intro w' hw'
            have hc := SB.str (SB.pick hw' [0])
            go_simp
            with_reducible rfl
          rotate_left
          · simp only [Act.put, List.setIfInBounds_toArray, List.set_cons_zero, List.set_cons_succ]
            rfl
          refine rg_take (i := 34) (N := some 88) (v := ?_) (a' := ?_) (bm 37 34359738367) rfl rfl (by kernel_rfl) (fun _ _ _ h => h) hHeld (Or.inl ⟨by rfl, ?_⟩) ?_ ?_
          rotate_left
          · intro w' hw'
            go_simp
            with_reducible rfl
          rotate_left
          · simp only [Act.put, List.setIfInBounds_toArray, List.set_cons_zero, List.set_cons_succ]
            rfl
          refine rg_take (i := 35) (N := some 89) (v := ?_) (a' := ?_) (bm 37 68719476735) rfl rfl (by kernel_rfl) (fun _ _ _ h => h) hHeld (Or.inl ⟨by rfl, ?_⟩) ?_ ?_
          rotate_left
          · intro w' hw'
            go_simp
            with_reducible rfl
          rotate_left
          · simp only [Act.put, List.setIfInBounds_toArray, List.set_cons_zero, List.set_cons_succ]
            rfl
          refine rg_take (i := 36) (N := some 4) (v := ?_) (a' := ?_) (bm 37 137438953471) rfl rfl (by kernel_rfl) (fun _ _ _ h => h) hHeld (Or.inl ⟨by rfl, ?_⟩) ?_ ?_
          rotate_left
          · intro w' hw'
            go_simp
            with_reducible rfl
          rotate_left
          · simp only [Act.put, List.setIfInBounds_toArray, List.set_cons_zero, List.set_cons_succ]
            rfl
          refine rg_done (by kernel_rfl) ?_
          go_wp2
          go_ret
          exact ⟨rfl, SB.bel hHeld⟩
        refine rg_one (i := 32) (N := some 86) (bm 37 7784628223) rfl rfl (by kernel_rfl) (fun K hK => ?_) ?_
        · skip
          refine value_ (w1 := ?_) (v := ?_) (by rfl) rfl ?_ ?_
          rotate_left 2
          · go_simp
            constructor
            · rfl
            · rfl
          have hnew := SB.made (n := b.length) hHeld (by omega)
          refine hK.out _ _ hnew.drop ?_
          clear hK K
          refine rg_norm (a' := ?_) ?_ ?_
          rotate_left
          · simp only [Act.put, List.setIfInBounds_toArray, List.set_cons_zero, List.set_cons_succ]
            rfl
          refine rg_sb hnew ?_
          clear hHeld
          have hHeld := hnew
          clear hnew
          refine rg_take (i := 33) (N := some 87) (v := ?_) (a' := ?_) (bm 37 16374562815) rfl rfl (by kernel_rfl) (fun _ _ _ h => h) hHeld (Or.inl ⟨by rfl, ?_⟩) ?_ ?_
          rotate_left
          · intro w' hw'
            have hc := SB.str (SB.pick hw' [0])
            go_simp
            with_reducible rfl
          rotate_left
          · simp only [Act.put, List.setIfInBounds_toArray, List.set_cons_zero, List.set_cons_succ]
            rfl
          refine rg_ready [28] (by kernel_rfl) (by simp) ?_
          refine rg_one (i := 28) (N := some 82) (bm 37 16642998271) rfl rfl (by kernel_rfl) (fun K hK => ?_) rg_nil
          go_simp
          go_at_call 16
          with_reducible refine (memBytesH (p := p2) hHeld (good0 _ _ _) a b.length (by omega) (by omega) HZ.out).mono ?_
          rintro e wx17x32x28r13 ⟨v2, rfl, hnew⟩
          go_wp2_with fail
          refine hK.out _ _ hnew.drop ?_
          clear hK K
          refine rg_norm (a' := ?_) ?_ ?_
          rotate_left
          · simp only [Act.put, List.setIfInBounds_toArray, List.set_cons_zero, List.set_cons_succ]
            rfl
          refine rg_sb hnew ?_
          clear hHeld
          have hHeld := hnew
          clear hnew
          refine rg_take (i := 29) (N := some 83) (v := ?_) (a' := ?_) (bm 37 17179869183) rfl rfl (by kernel_rfl) (fun _ _ _ h => h) hHeld (Or.inl ⟨by rfl, ?_⟩) ?_ ?_
          rotate_left
          · intro w' hw'
            have hc := SB.str (SB.pick hw' [0])
            go_simp
            with_reducible rfl
          rotate_left
          · simp only [Act.put, List.setIfInBounds_toArray, List.set_cons_zero, List.set_cons_succ]
            rfl
          refine rg_take (i := 34) (N := some 88) (v := ?_) (a' := ?_) (bm 37 34359738367) rfl rfl (by kernel_rfl) (fun _ _ _ h => h) hHeld (Or.inl ⟨by rfl, ?_⟩) ?_ ?_
          rotate_left
          · intro w' hw'
            go_simp
            with_reducible rfl
          rotate_left
          · simp only [Act.put, List.setIfInBounds_toArray, List.set_cons_zero, List.set_cons_succ]
            rfl
          refine rg_take (i := 35) (N := some 89) (v := ?_) (a' := ?_) (bm 37 68719476735) rfl rfl (by kernel_rfl) (fun _ _ _ h => h) hHeld (Or.inl ⟨by rfl, ?_⟩) ?_ ?_
          rotate_left
          · intro w' hw'
            go_simp
            with_reducible rfl
          rotate_left
          · simp only [Act.put, List.setIfInBounds_toArray, List.set_cons_zero, List.set_cons_succ]
            rfl
          refine rg_take (i := 36) (N := some 4) (v := ?_) (a' := ?_) (bm 37 137438953471) rfl rfl (by kernel_rfl) (fun _ _ _ h => h) hHeld (Or.inl ⟨by rfl, ?_⟩) ?_ ?_
          rotate_left
          · intro w' hw'
            go_simp
            with_reducible rfl
          rotate_left
          · simp only [Act.put, List.setIfInBounds_toArray, List.set_cons_zero, List.set_cons_succ]
            rfl
          refine rg_done (by kernel_rfl) ?_
          go_wp2
          go_ret
          exact ⟨rfl, SB.bel hHeld⟩
        exact rg_nil
def okB (l : List Int) : Bool := l.all (fun c => decide (0 ≤ c) && decide (c < 256)) && decide (l.length ≤ 9223372036854775807)
theorem okB_iff {l : List Int} : okB l = true ↔ Oct l ∧ l.length ≤ 9223372036854775807 := by
  simp [okB, Oct, List.all_eq_true]
/-- Where the walk's law holds: the arguments are of their kinds. -/
def avocetlaw13_MemoryApart.f (a0 : Int) (l1 : List Int) : Option (Bool) := if okB l1 then some true else none
theorem avocetlaw13_MemoryApart.calls (a0 : Int) (A1 : Option Addr) (c1 : Nat) (l1 : List Int) (r : Bool) (w : World) (hG : Globs w) (hr1 : Kd.C (Kd.int .u8) w A1 l1.length l1) (hc1 : l1.length ≤ c1) (hr_ : r = true) (h : avocetlaw13_MemoryApart.f a0 l1 = some r) :
    Calls Tryd.prog 5 #[.int .i64 a0, .slice A1 l1.length c1] w fun e w' => e = .returned (.bool r) ∧ Below w.heap.size w w' := by
  subst hr_
  unfold avocetlaw13_MemoryApart.f at h
  split at h
  · rename_i hb
    obtain ⟨h1, h2⟩ := okB_iff.1 hb
    exact memoryApart a0 l1 A1 c1 w hG hr1 hc1 h1 (by omega)
  · cases h
end Go.Proofs.YtffoolhfjomhhaaDoor.G

