/- Package frames' stacks: Cut. -/
import Derived.Deep.DeepMust
import Derived.Test.YtbbgkelcdooabaaFraH
namespace Go.Proofs.Ytbbgkelcdooabaa.G
open Go.RowKit Go.Proofs.YtbbgkelcdooabaaW.PrintWords Go.Proofs.YtbbgkelcdooabaaW.PrintLast Go.Proofs.YtbbgkelcdooabaaW.PrintMore
set_option linter.unusedVariables false
set_option linter.unusedSimpArgs false
theorem calls_q {P : Program} {f : FuncId} {args : Array Value} {w : World} {v : Value} (h : Calls P f args w fun e w' => e = .returned v ∧ Drawn0 w w') : Calls P f args w fun e w' => e = .returned v ∧ ∃ m, w' = w.drewN m :=
  h.mono fun _ _ h => ⟨h.1, drawn_ex h.2⟩
theorem frCutNo {w0 w : World} {L : List As} {p : Nat} {s : FS} (hS : SB w0 w (FO p s :: L)) (hl : s.v.length ≤ 1000000) (h a : Int) (hh : -9223372036854775808 ≤ h ∧ h < 9223372036854775808) (hq : s.fr = [] ∨ h < 0 ∨ a < 0 ∨ ¬ hasN s h ∨ (s.v.length : Int) - baseOf s.fr - h < a) :
    Calls Try.prog 38 #[.pointer (some ⟨p, 0, none⟩), .int .i64 h, .int .i64 a] w fun e w' => e = .returned (.bool false) ∧ SB w0 w' (FO p s :: L) := by
  by_cases hf : s.fr = []
  · have h0 := fr_zero hS hf
    have q34 := Aside0.mk (fun nd => calls_q (frTop0 p (w.drewN nd) h0))
    have HS := Aside0.mk hS
    clear hq hf hS h0
    go_enter Try.func38, Try.ntmps38
    go_wp2
    go_quiet ((go_at_call 34; with_reducible exact Calls.quiet_of (q34.out _)))
    go_wp2
    go_ret
    exact ⟨rfl, HS.out.drewN _⟩
  obtain ⟨n, hn⟩ : ∃ n, s.fr.length = n + 1 := ⟨s.fr.length - 1, by have := List.length_pos_iff.2 hf; omega⟩
  obtain ⟨h64, hc⟩ := fr_top hS n hn
  have q34 := Aside0.mk (fun nd => calls_q (frTop p n (w.drewN nd) h64 hc))
  obtain ⟨v, z, hz, hk, h1⟩ := hS.open_
  have hb := h1.blk
  obtain ⟨A0, c0, rfl, hc0, _⟩ := h1.swap.reads
  have s0 : w.cell? ⟨p, 0, none⟩ = some (.slice A0 s.v.length c0) := fsC_b _ _ _ hb 0 (by omega)
  have hat := AtB_of hb hz hk
  have hbo := baseOf_ok hk
  have q35 := Aside0.mk (fun nd => calls_q (frBase p _ (baseOf s.fr) (w.drewN nd) (hat.drewN nd)))
  have q32 := Aside0.mk (fun nd => calls_q (frHasS (hS.drewN nd) hl h))
  have HS := Aside0.mk hS
  by_cases c1 : h < 0
  · have d1 : decide (h < 0) = true := decide_eq_true c1
    clear hq hf hS hb hat hz hk h1 s0 c1 hn hc
    go_enter Try.func38, Try.ntmps38
    go_wp2
    go_quiet ((go_at_call 34; with_reducible exact Calls.quiet_of (q34.out _)))
    go_wp2
    go_ret
    exact ⟨rfl, HS.out.drewN _⟩
  have d1 : decide (h < 0) = false := decide_eq_false c1
  by_cases c2 : a < 0
  · have d2 : decide (a < 0) = true := decide_eq_true c2
    clear hq hf hS hb hat hz hk h1 s0 c1 c2 hn hc
    go_enter Try.func38, Try.ntmps38
    go_wp2
    go_quiet ((go_at_call 34; with_reducible exact Calls.quiet_of (q34.out _)))
    go_wp2
    go_ret
    exact ⟨rfl, HS.out.drewN _⟩
  have d2 : decide (a < 0) = false := decide_eq_false c2
  by_cases c3 : hasN s h
  · have d3 : decide (hasN s h) = true := decide_eq_true c3
    rw [d3] at q32
    have hw1 : IntKind.i64.wrap ((s.v.length : Int) - baseOf s.fr) = (s.v.length : Int) - baseOf s.fr := by rw [IntKind.wrap_i64]; omega
    have hw2 : IntKind.i64.wrap ((s.v.length : Int) - baseOf s.fr - h) = (s.v.length : Int) - baseOf s.fr - h := by rw [IntKind.wrap_i64]; have := c3.2; omega
    have hq5 : (s.v.length : Int) - baseOf s.fr - h < a := by
      rcases hq with hq | hq | hq | hq | hq
      · exact absurd hq hf
      · exact absurd hq c1
      · exact absurd hq c2
      · exact absurd c3 hq
      · exact hq
    have d4 : decide ((s.v.length : Int) - baseOf s.fr - h < a) = true := decide_eq_true hq5
    clear hq hf hS hb hat hz hk h1 c1 c2 hn hc c3 hq5
    go_enter Try.func38, Try.ntmps38
    go_wp2
    go_quiet ((first | (go_at_call 34; with_reducible exact Calls.quiet_of (q34.out _)) | (go_at_call 32; with_reducible exact Calls.quiet_of (q32.out _)) | (go_at_call 35; with_reducible exact Calls.quiet_of (q35.out _))))
    go_wp2
    go_ret
    exact ⟨rfl, HS.out.drewN _⟩
  · have d3 : decide (hasN s h) = false := decide_eq_false c3
    rw [d3] at q32
    clear hq hf hS hb hat hz hk h1 s0 c1 c2 hn hc c3
    go_enter Try.func38, Try.ntmps38
    go_wp2
    go_quiet ((first | (go_at_call 34; with_reducible exact Calls.quiet_of (q34.out _)) | (go_at_call 32; with_reducible exact Calls.quiet_of (q32.out _))))
    go_wp2
    go_ret
    exact ⟨rfl, HS.out.drewN _⟩
theorem frCutOk {w0 w : World} {L : List As} {p : Nat} {s : FS} (hS : SB w0 w (FO p s :: L)) (hl : s.v.length ≤ 1000000) (h c : Nat) (hf : s.fr ≠ []) (hq : hasN s h) (hq2 : (c : Int) ≤ (s.v.length : Int) - baseOf s.fr - h) :
    Calls Try.prog 38 #[.pointer (some ⟨p, 0, none⟩), .int .i64 (h : Int), .int .i64 (c : Int)] w fun e w' => e = .returned (.bool true) ∧
      SB w0 w' (FO p { s with v := s.v.take (baseOf s.fr + h).toNat ++ s.v.drop (s.v.length - c) } :: L) := by
  obtain ⟨n, hn⟩ : ∃ n, s.fr.length = n + 1 := ⟨s.fr.length - 1, by have := List.length_pos_iff.2 hf; omega⟩
  obtain ⟨h64, hc⟩ := fr_top hS n hn
  have q34 := Aside0.mk (fun nd => calls_q (frTop p n (w.drewN nd) h64 hc))
  have hqc : hasN s c := ⟨by omega, by omega⟩
  have HT := Aside0.mk (fun nd => frTakeOk (hS.drewN nd) hl c hqc)
  obtain ⟨v', z', hz', hk, h1'⟩ := hS.open_
  have hb' := h1'.blk
  obtain ⟨A0', c0', rfl, hc0', _⟩ := h1'.swap.reads
  have s0 : w.cell? ⟨p, 0, none⟩ = some (.slice A0' s.v.length c0') := fsC_b _ _ _ hb' 0 (by omega)
  have hat := AtB_of hb' hz' hk
  have q35 := Aside0.mk (fun nd => calls_q (frBase p _ (baseOf s.fr) (w.drewN nd) (hat.drewN nd)))
  have q32 := Aside0.mk (fun nd => calls_q (frHasS (hS.drewN nd) hl h))
  rw [decide_eq_true hq] at q32
  obtain ⟨b, hb⟩ := Int.eq_ofNat_of_zero_le (baseOf_ok hk).1
  obtain ⟨m, hm⟩ : ∃ m, s.v.length - c = m := ⟨_, rfl⟩
  have hbm : b + h ≤ m := by omega
  have hml : m ≤ s.v.length := by omega
  rw [hm] at HT ⊢
  obtain ⟨bh, hbe⟩ : ∃ bh, b + h = bh := ⟨_, rfl⟩
  have hbh : (baseOf s.fr + (h : Int)).toNat = bh := by omega
  rw [hbh]
  have hw1 : IntKind.i64.wrap ((s.v.length : Int) - baseOf s.fr) = (s.v.length : Int) - baseOf s.fr := by rw [IntKind.wrap_i64]; omega
  have hw2 : IntKind.i64.wrap ((s.v.length : Int) - baseOf s.fr - h) = (s.v.length : Int) - baseOf s.fr - h := by rw [IntKind.wrap_i64]; omega
  have d1 : decide ((h : Int) < 0) = false := decide_eq_false (by omega)
  have d2 : decide ((c : Int) < 0) = false := decide_eq_false (by omega)
  have d4 : decide ((s.v.length : Int) - baseOf s.fr - h < (c : Int)) = false := decide_eq_false (by omega)
  have hw3 : IntKind.i64.wrap ((b : Int) + (h : Int)) = (bh : Int) := by rw [IntKind.wrap_i64]; omega
  have HK := Aside0.mk hk
  have HN := Aside0.mk hn
  have HB := Aside0.mk hb
  clear hS hq hq2 hf hn hk hm hqc hbh hat h1' hb' hz' hb
  go_enter Try.func38, Try.ntmps38
  go_wp2
  go_quiet ((first | (go_at_call 34; with_reducible exact Calls.quiet_of (q34.out _)) | (go_at_call 32; with_reducible exact Calls.quiet_of (q32.out _)) | (go_at_call 35; with_reducible exact Calls.quiet_of (q35.out _))))
  clear hw1 hw2 d4 s0 q34 q32 q35
  go_wp2_with (go_at_call 33; go_must ((with_reducible refine (HT.out _).mono ?_); rintro e w3 ⟨vL, rfl, hs⟩; have HT3 := Aside0.mk hs; clear hs))
  obtain ⟨v, z, hz, hk, h1⟩ := HT3.out.swap.open_
  obtain ⟨A0, c0, rfl, hc0, _⟩ := h1.swap.reads
  have hvl : (s.v.take m).length = m := by simp; omega
  have hzl : z.length = n + 1 := by have := congrArg List.length hz; have := HN.out; simp at *; omega
  simp only [hvl] at h1 hc0
  have h1 := h1.drew
  obtain ⟨AL, cL, rfl, hcL, _⟩ := (h1.pick4 [3]).reads
  obtain ⟨xsL, hxsL⟩ : ∃ xs, s.v.drop m = xs := ⟨_, rfl⟩
  rw [hxsL] at h1 hcL ⊢
  have hxl : xsL.length ≤ 1000000 := by rw [← hxsL]; simp; omega
  have hcut := cut22 A0 m c0 bh (by omega) hc0
  have HDF := Aside0.mk h1
  have HXL := Aside0.mk hxsL
  clear h1 HT3 hxsL
  refine rg_startL (n := 15) (S := fun w' => True) (bm 15 0) (by kernel_rfl) rfl (by kernel_rfl) (trivial) (fun wd hwd hHeld => ?_)
  refine rg_take (i := 0) (N := some 46) (v := ?_) (a' := ?_) (bm 15 1) rfl rfl (by kernel_rfl) (fun _ _ _ h => h) hHeld (Or.inl ⟨by rfl, ?_⟩) ?_ ?_
  rotate_left
  · intro w' hw'
    have hw3' := hw3
    go_simp
    with_reducible rfl
  rotate_left
  · simp only [Act.put, List.setIfInBounds_toArray, List.set_cons_zero, List.set_cons_succ]
    rfl
  refine rg_take (i := 1) (N := some 47) (v := ?_) (a' := ?_) (bm 15 3) rfl rfl (by kernel_rfl) (fun _ _ _ h => h) hHeld (Or.inl ⟨by rfl, ?_⟩) ?_ ?_
  rotate_left
  · intro w' hw'
    have hw3' := hw3
    go_simp
    with_reducible rfl
  rotate_left
  · simp only [Act.put, List.setIfInBounds_toArray, List.set_cons_zero, List.set_cons_succ]
    rfl
  refine rg_take (i := 2) (N := some 48) (v := ?_) (a' := ?_) (bm 15 7) rfl rfl (by kernel_rfl) (fun _ _ _ h => h) hHeld (Or.inl ⟨by rfl, ?_⟩) ?_ ?_
  rotate_left
  · intro w' hw'
    have hw3' := hw3
    go_simp
    with_reducible rfl
  rotate_left
  · simp only [Act.put, List.setIfInBounds_toArray, List.set_cons_zero, List.set_cons_succ]
    rfl
  refine rg_take (i := 3) (N := some 49) (v := ?_) (a' := ?_) (bm 15 15) rfl rfl (by kernel_rfl) (fun _ _ _ h => h) hHeld (Or.inl ⟨by rfl, ?_⟩) ?_ ?_
  rotate_left
  · intro w' hw'
    have hw3' := hw3
    go_simp
    with_reducible rfl
  rotate_left
  · simp only [Act.put, List.setIfInBounds_toArray, List.set_cons_zero, List.set_cons_succ]
    rfl
  refine rg_take (i := 5) (N := some 51) (v := ?_) (a' := ?_) (bm 15 47) rfl rfl (by kernel_rfl) (fun _ _ _ h => h) hHeld (Or.inl ⟨by rfl, ?_⟩) ?_ ?_
  rotate_left
  · intro w' hw'
    have hw3' := hw3
    go_simp
    with_reducible rfl
  rotate_left
  · simp only [Act.put, List.setIfInBounds_toArray, List.set_cons_zero, List.set_cons_succ]
    rfl
  refine rg_take (i := 7) (N := some 53) (v := ?_) (a' := ?_) (bm 15 175) rfl rfl (by kernel_rfl) (fun _ _ _ h => h) hHeld (Or.inl ⟨by rfl, ?_⟩) ?_ ?_
  rotate_left
  · intro w' hw'
    have hw3' := hw3
    go_simp
    with_reducible rfl
  rotate_left
  · simp only [Act.put, List.setIfInBounds_toArray, List.set_cons_zero, List.set_cons_succ]
    rfl
  refine rg_take (i := 10) (N := some 56) (v := ?_) (a' := ?_) (bm 15 1199) rfl rfl (by kernel_rfl) (fun _ _ _ h => h) hHeld (Or.inl ⟨by rfl, ?_⟩) ?_ ?_
  rotate_left
  · intro w' hw'
    have hw3' := hw3
    go_simp
    with_reducible rfl
  rotate_left
  · simp only [Act.put, List.setIfInBounds_toArray, List.set_cons_zero, List.set_cons_succ]
    rfl
  refine rg_ready [4, 6] (by kernel_rfl) (by simp) ?_
  refine rg_one (i := 4) (N := some 50) (bm 15 1215) rfl rfl (by kernel_rfl) (fun K hK => ?_) ?_
  · skip
    have HD := Aside0.mk (hwd.out ▸ HDF.out)
    have s0 : wd.cell? ⟨p, 0, none⟩ = some (.slice A0 m c0) := fsC_b _ _ _ HD.out.blk 0 (by omega)
    refine value_ (w1 := ?_) (v := ?_) (by rfl) rfl ?_ ?_
    rotate_left 2
    · go_simp
      constructor
      · rfl
      · rfl
    have hnew : True := trivial
    refine hK.out _ _ hnew ?_
    clear hK K
    refine rg_norm (a' := ?_) ?_ ?_
    rotate_left
    · simp only [Act.put, List.setIfInBounds_toArray, List.set_cons_zero, List.set_cons_succ]
      rfl
    clear hHeld
    have hHeld := hnew
    clear hnew
    refine rg_ready [6] (by kernel_rfl) (by simp) ?_
    refine rg_one (i := 6) (N := some 52) (bm 15 1279) rfl rfl (by kernel_rfl) (fun K hK => ?_) rg_nil
    have HD := Aside0.mk (hwd.out ▸ HDF.out)
    have ha := AtB_of (s := s) HD.out.blk hz HK.out
    rw [HB.out] at ha
    go_simp
    go_at_call 35
    with_reducible refine (frBase p _ (b : Int) _ ha).mono ?_
    rintro e wx4x6r4 ⟨rfl, ⟨nd6, rfl⟩⟩
    have HD6 := Aside0.mk (HD.out.drewN nd6)
    have hnew : True := trivial
    clear ha
    go_wp2_with fail
    refine hK.out _ _ hnew ?_
    clear hK K
    refine rg_norm (a' := ?_) ?_ ?_
    rotate_left
    · simp only [Act.put, List.setIfInBounds_toArray, List.set_cons_zero, List.set_cons_succ]
      rfl
    clear hHeld
    have hHeld := hnew
    clear hnew
    refine rg_take (i := 8) (N := some 54) (v := ?_) (a' := ?_) (bm 15 1535) rfl rfl (by kernel_rfl) (fun _ _ _ h => h) hHeld (Or.inl ⟨by rfl, ?_⟩) ?_ ?_
    rotate_left
    · intro w' hw'
      have hw3' := hw3
      go_simp
      with_reducible rfl
    rotate_left
    · simp only [Act.put, List.setIfInBounds_toArray, List.set_cons_zero, List.set_cons_succ]
      rfl
    refine rg_take (i := 9) (N := some 55) (v := ?_) (a' := ?_) (bm 15 2047) rfl rfl (by kernel_rfl) (fun _ _ _ h => h) hHeld (Or.inl ⟨by rfl, ?_⟩) ?_ ?_
    rotate_left
    · intro w' hw'
      have hw3' := hw3
      go_simp
      with_reducible rfl
    rotate_left
    · simp only [Act.put, List.setIfInBounds_toArray, List.set_cons_zero, List.set_cons_succ]
      rfl
    refine rg_ready [11] (by kernel_rfl) (by simp) ?_
    refine rg_one (i := 11) (N := some 57) (bm 15 4095) rfl rfl (by kernel_rfl) (fun K hK => ?_) rg_nil
    have hq1 := SB.rowTake (HD6.out.pick4 [1, 0, 2, 3]) bh (by omega)
    have htk : (s.v.take m).take bh = s.v.take bh := by rw [List.take_take, Nat.min_eq_left (by omega)]
    rw [htk] at hq1
    obtain ⟨AL', cL', eL, _, hCL⟩ := (hq1.pick4 [3]).reads
    injection eL with eL1 eL2 eL3
    subst eL1
    subst eL3
    refine SB.appRowsStep (ys := xsL) hq1 (by rfl) (.tmp 55) (.tmp 56) 22 (.int .u64 0) 8 rfl Try.underlying22 info35 rfl (by decide) (by decide) rfl rfl (fun _ _ h => h) hCL (by simp; omega) ?_
    intro v5 wx4x6x11r4 hs5
    obtain ⟨A5, c5, rfl, hc5, _⟩ := hs5.reads
    obtain ⟨xs5, hxs5⟩ : ∃ xs, s.v.take bh ++ xsL = xs := ⟨_, rfl⟩
    rw [hxs5] at hs5
    have HX5 := Aside0.mk hxs5
    rw [hxs5]
    have HD9 := Aside0.mk hs5.swap
    have hnew : True := trivial
    clear hq1 htk hCL hs5 hxs5
    refine hK.out _ _ hnew ?_
    clear hK K
    refine rg_norm (a' := ?_) ?_ ?_
    rotate_left
    · simp only [Act.put, List.setIfInBounds_toArray, List.set_cons_zero, List.set_cons_succ]
      rfl
    clear hHeld
    have hHeld := hnew
    clear hnew
    refine rg_take (i := 12) (N := some 58) (v := ?_) (a' := ?_) (bm 15 8191) rfl rfl (by kernel_rfl) (fun _ _ _ h => h) hHeld (Or.inl ⟨by rfl, ?_⟩) ?_ ?_
    rotate_left
    · intro w' hw'
      have hw3' := hw3
      go_simp
      with_reducible rfl
    rotate_left
    · simp only [Act.put, List.setIfInBounds_toArray, List.set_cons_zero, List.set_cons_succ]
      rfl
    refine rg_take (i := 13) (N := some 59) (v := ?_) (a' := ?_) (bm 15 16383) rfl rfl (by kernel_rfl) (fun _ _ _ h => h) hHeld (Or.inl ⟨by rfl, ?_⟩) ?_ ?_
    rotate_left
    · intro w' hw'
      have hw3' := hw3
      go_simp
      with_reducible rfl
    rotate_left
    · simp only [Act.put, List.setIfInBounds_toArray, List.set_cons_zero, List.set_cons_succ]
      rfl
    refine rg_ready [14] (by kernel_rfl) (by simp) ?_
    refine rg_one (i := 14) (N := none) (bm 15 32767) rfl rfl (by kernel_rfl) (fun K hK => ?_) rg_nil
    have hb9 := HD9.out.blk
    have x0 := fsC_b _ _ _ hb9 0 (by omega)
    have f0 := blk_frozen hb9 0
    have h12 := HD9.out.set1 0 (.slice A5 xs5.length c5)
    rw [fsC_set0] at h12
    have HD12 := Aside0.mk h12
    have hnew : True := trivial
    clear hb9 h12
    go_simp
    refine hK.out undef _ hnew ?_
    clear hK K
    refine rg_norm (a' := ?_) ?_ ?_
    rotate_left
    · simp only [Act.put, List.setIfInBounds_toArray, List.set_cons_zero, List.set_cons_succ]
      rfl
    clear hHeld
    have hHeld := hnew
    clear hnew
    refine rg_done (by kernel_rfl) ?_
    go_wp2
    go_ret
    refine ⟨rfl, ?_⟩
    have hkk := HK.out
    rw [HXL.out, HX5.out]
    exact SB.close_ (s := { s with v := xs5 }) hz ⟨hkk.room0, hkk.room, hkk.len, hkk.base⟩ (HD12.out.pick4 [0, 1, 2])
  refine rg_one (i := 6) (N := some 52) (bm 15 1263) rfl rfl (by kernel_rfl) (fun K hK => ?_) ?_
  · skip
    have HD := Aside0.mk (hwd.out ▸ HDF.out)
    have ha := AtB_of (s := s) HD.out.blk hz HK.out
    rw [HB.out] at ha
    go_simp
    go_at_call 35
    with_reducible refine (frBase p _ (b : Int) _ ha).mono ?_
    rintro e wx6r4 ⟨rfl, ⟨nd6, rfl⟩⟩
    have HD6 := Aside0.mk (HD.out.drewN nd6)
    have hnew : True := trivial
    clear ha
    go_wp2_with fail
    refine hK.out _ _ hnew ?_
    clear hK K
    refine rg_norm (a' := ?_) ?_ ?_
    rotate_left
    · simp only [Act.put, List.setIfInBounds_toArray, List.set_cons_zero, List.set_cons_succ]
      rfl
    clear hHeld
    have hHeld := hnew
    clear hnew
    refine rg_take (i := 8) (N := some 54) (v := ?_) (a' := ?_) (bm 15 1519) rfl rfl (by kernel_rfl) (fun _ _ _ h => h) hHeld (Or.inl ⟨by rfl, ?_⟩) ?_ ?_
    rotate_left
    · intro w' hw'
      have hw3' := hw3
      go_simp
      with_reducible rfl
    rotate_left
    · simp only [Act.put, List.setIfInBounds_toArray, List.set_cons_zero, List.set_cons_succ]
      rfl
    refine rg_ready [4] (by kernel_rfl) (by simp) ?_
    refine rg_one (i := 4) (N := some 50) (bm 15 1535) rfl rfl (by kernel_rfl) (fun K hK => ?_) rg_nil
    have HD := Aside0.mk (hwd.out ▸ HDF.out)
    have s0 : wd.cell? ⟨p, 0, none⟩ = some (.slice A0 m c0) := fsC_b _ _ _ HD.out.blk 0 (by omega)
    refine value_ (w1 := ?_) (v := ?_) (by rfl) rfl ?_ ?_
    rotate_left 2
    · go_simp
      constructor
      · rfl
      · rfl
    have hnew : True := trivial
    refine hK.out _ _ hnew ?_
    clear hK K
    refine rg_norm (a' := ?_) ?_ ?_
    rotate_left
    · simp only [Act.put, List.setIfInBounds_toArray, List.set_cons_zero, List.set_cons_succ]
      rfl
    clear hHeld
    have hHeld := hnew
    clear hnew
    refine rg_take (i := 9) (N := some 55) (v := ?_) (a' := ?_) (bm 15 2047) rfl rfl (by kernel_rfl) (fun _ _ _ h => h) hHeld (Or.inl ⟨by rfl, ?_⟩) ?_ ?_
    rotate_left
    · intro w' hw'
      have hw3' := hw3
      go_simp
      with_reducible rfl
    rotate_left
    · simp only [Act.put, List.setIfInBounds_toArray, List.set_cons_zero, List.set_cons_succ]
      rfl
    refine rg_ready [11] (by kernel_rfl) (by simp) ?_
    refine rg_one (i := 11) (N := some 57) (bm 15 4095) rfl rfl (by kernel_rfl) (fun K hK => ?_) rg_nil
    have hq1 := SB.rowTake (HD6.out.pick4 [1, 0, 2, 3]) bh (by omega)
    have htk : (s.v.take m).take bh = s.v.take bh := by rw [List.take_take, Nat.min_eq_left (by omega)]
    rw [htk] at hq1
    obtain ⟨AL', cL', eL, _, hCL⟩ := (hq1.pick4 [3]).reads
    injection eL with eL1 eL2 eL3
    subst eL1
    subst eL3
    refine SB.appRowsStep (ys := xsL) hq1 (by rfl) (.tmp 55) (.tmp 56) 22 (.int .u64 0) 8 rfl Try.underlying22 info35 rfl (by decide) (by decide) rfl rfl (fun _ _ h => h) hCL (by simp; omega) ?_
    intro v5 wx6x4x11r4 hs5
    obtain ⟨A5, c5, rfl, hc5, _⟩ := hs5.reads
    obtain ⟨xs5, hxs5⟩ : ∃ xs, s.v.take bh ++ xsL = xs := ⟨_, rfl⟩
    rw [hxs5] at hs5
    have HX5 := Aside0.mk hxs5
    rw [hxs5]
    have HD9 := Aside0.mk hs5.swap
    have hnew : True := trivial
    clear hq1 htk hCL hs5 hxs5
    refine hK.out _ _ hnew ?_
    clear hK K
    refine rg_norm (a' := ?_) ?_ ?_
    rotate_left
    · simp only [Act.put, List.setIfInBounds_toArray, List.set_cons_zero, List.set_cons_succ]
      rfl
    clear hHeld
    have hHeld := hnew
    clear hnew
    refine rg_take (i := 12) (N := some 58) (v := ?_) (a' := ?_) (bm 15 8191) rfl rfl (by kernel_rfl) (fun _ _ _ h => h) hHeld (Or.inl ⟨by rfl, ?_⟩) ?_ ?_
    rotate_left
    · intro w' hw'
      have hw3' := hw3
      go_simp
      with_reducible rfl
    rotate_left
    · simp only [Act.put, List.setIfInBounds_toArray, List.set_cons_zero, List.set_cons_succ]
      rfl
    refine rg_take (i := 13) (N := some 59) (v := ?_) (a' := ?_) (bm 15 16383) rfl rfl (by kernel_rfl) (fun _ _ _ h => h) hHeld (Or.inl ⟨by rfl, ?_⟩) ?_ ?_
    rotate_left
    · intro w' hw'
      have hw3' := hw3
      go_simp
      with_reducible rfl
    rotate_left
    · simp only [Act.put, List.setIfInBounds_toArray, List.set_cons_zero, List.set_cons_succ]
      rfl
    refine rg_ready [14] (by kernel_rfl) (by simp) ?_
    refine rg_one (i := 14) (N := none) (bm 15 32767) rfl rfl (by kernel_rfl) (fun K hK => ?_) rg_nil
    have hb9 := HD9.out.blk
    have x0 := fsC_b _ _ _ hb9 0 (by omega)
    have f0 := blk_frozen hb9 0
    have h12 := HD9.out.set1 0 (.slice A5 xs5.length c5)
    rw [fsC_set0] at h12
    have HD12 := Aside0.mk h12
    have hnew : True := trivial
    clear hb9 h12
    go_simp
    refine hK.out undef _ hnew ?_
    clear hK K
    refine rg_norm (a' := ?_) ?_ ?_
    rotate_left
    · simp only [Act.put, List.setIfInBounds_toArray, List.set_cons_zero, List.set_cons_succ]
      rfl
    clear hHeld
    have hHeld := hnew
    clear hnew
    refine rg_done (by kernel_rfl) ?_
    go_wp2
    go_ret
    refine ⟨rfl, ?_⟩
    have hkk := HK.out
    rw [HXL.out, HX5.out]
    exact SB.close_ (s := { s with v := xs5 }) hz ⟨hkk.room0, hkk.room, hkk.len, hkk.base⟩ (HD12.out.pick4 [0, 1, 2])
  exact rg_nil
end Go.Proofs.Ytbbgkelcdooabaa.G
