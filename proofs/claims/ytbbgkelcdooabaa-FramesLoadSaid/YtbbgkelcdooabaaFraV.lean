/- The document's stacks: Cut. -/
import Derived.Deep.DeepMust
import Derived.Test.YtbbgkelcdooabaaFraU
namespace Go.Proofs.Ytbbgkelcdooabaa.G
open Go.RowKit Go.Proofs.YtbbgkelcdooabaaW.PrintWords Go.Proofs.YtbbgkelcdooabaaW.PrintLast Go.Proofs.YtbbgkelcdooabaaW.PrintMore
set_option linter.unusedVariables false
set_option linter.unusedSimpArgs false
theorem xCutNo {w0 w : World} {L : List As} {g : Nat} {s : FS} {B : Nat} (hS : SB w0 w (XO g s :: L)) (hI : Inv s B) (hB : B ≤ 100000) (hF : s.fr.length ≤ 64) (h a : Int) (hh : -9223372036854775808 ≤ h ∧ h < 9223372036854775808)
    (hq : s.fr = [] ∨ h < 0 ∨ a < 0 ∨ ¬ hasN s h ∨ (s.v.length : Int) - baseOf s.fr - h < a) :
    Calls Try.prog 47 #[.pointer (some ⟨g, 0, none⟩), .int .i64 h, .int .i64 a] w fun e w' => e = .returned (.bool false) ∧ SB w0 w' (XO g s :: L) := by
  have q52 := Aside0.mk (xBase hS (by omega))
  obtain ⟨A, c, Af, cf, s0, s1, s2, hc, hcf, hC⟩ := xo_cells hS
  have hbase := hI.base
  have hvl := hI.vl
  obtain ⟨b, hb⟩ : ∃ b, baseOf s.fr = b := ⟨_, rfl⟩
  obtain ⟨m, hm⟩ : ∃ m, s.v.length = m := ⟨_, rfl⟩
  unfold hasN at hq
  rw [hb] at q52 hbase hq
  rw [hm] at s0 hc hbase hq hvl
  obtain ⟨d, hd⟩ : ∃ d, (m : Int) - b = d := ⟨_, rfl⟩
  have hw : IntKind.i64.wrap ((m : Int) - b) = d := by rw [IntKind.wrap_i64]; omega
  have HS := Aside0.mk hS
  have HQ := Aside0.mk hq
  obtain ⟨f, hf⟩ : ∃ f, s.fr.length = f := ⟨_, rfl⟩
  rw [hf] at s1
  have hfz : s.fr = [] ↔ f = 0 := by rw [← hf]; exact List.length_eq_zero_iff.symm
  have HFZ := Aside0.mk hfz
  clear hI hC s2 hS hcf hb hm hc hq hf hfz
  by_cases h1 : f = 0
  · subst h1
    go_enter Try.func47, Try.ntmps47
    go_wp2
    go_quiet ((go_at_call 52; with_reducible exact Calls.quiet_of (q52.out _)))
    go_wp2
    go_ret
    exact ⟨rfl, HS.out.drewN _⟩
  have b1 : ((f : Int) == 0) = false := beq_eq_false_iff_ne.2 (by omega)
  by_cases h2 : h < 0
  · have d2 : decide (h < 0) = true := decide_eq_true h2
    clear HQ HFZ
    go_enter Try.func47, Try.ntmps47
    go_wp2
    go_quiet ((go_at_call 52; with_reducible exact Calls.quiet_of (q52.out _)))
    go_wp2
    go_ret
    exact ⟨rfl, HS.out.drewN _⟩
  have d2 : decide (h < 0) = false := decide_eq_false h2
  by_cases h3 : a < 0
  · have d3 : decide (a < 0) = true := decide_eq_true h3
    clear HQ HFZ
    go_enter Try.func47, Try.ntmps47
    go_wp2
    go_quiet ((go_at_call 52; with_reducible exact Calls.quiet_of (q52.out _)))
    go_wp2
    go_ret
    exact ⟨rfl, HS.out.drewN _⟩
  have d3 : decide (a < 0) = false := decide_eq_false h3
  by_cases h4 : d < h
  · have d4 : decide (d < h) = true := decide_eq_true h4
    clear HQ HFZ
    go_enter Try.func47, Try.ntmps47
    go_wp2
    go_quiet ((go_at_call 52; with_reducible exact Calls.quiet_of (q52.out _)))
    go_wp2
    go_ret
    exact ⟨rfl, HS.out.drewN _⟩
  have d4 : decide (d < h) = false := decide_eq_false h4
  have h5 : d - h < a := by
    rcases HQ.out with h | h | h | h | h
    · exact absurd (HFZ.out.1 h) h1
    · exact absurd h h2
    · exact absurd h h3
    · exact absurd ⟨by omega, by omega⟩ h
    · omega
  obtain ⟨e, he⟩ : ∃ e, d - h = e := ⟨_, rfl⟩
  have hw2 : IntKind.i64.wrap (d - h) = e := by rw [IntKind.wrap_i64]; omega
  have d5 : decide (e < a) = true := decide_eq_true (by omega)
  clear HQ HFZ he
  go_enter Try.func47, Try.ntmps47
  go_wp2
  go_quiet ((go_at_call 52; with_reducible exact Calls.quiet_of (q52.out _)))
  go_wp2
  go_ret
  exact ⟨rfl, HS.out.drewN _⟩
set_option maxHeartbeats 4000000 in
theorem xCutOk {w0 w : World} {L : List As} {g : Nat} {s : FS} {B : Nat} (hS : SB w0 w (XO g s :: L)) (hI : Inv s B) (hB : B ≤ 100000) (hF : s.fr.length ≤ 64) (h c : Nat) (hf : s.fr ≠ []) (h2h : hasN s h) (h2c : (c : Int) ≤ (s.v.length : Int) - baseOf s.fr - h) :
    Calls Try.prog 47 #[.pointer (some ⟨g, 0, none⟩), .int .i64 h, .int .i64 c] w fun e w' => e = .returned (.bool true) ∧ SB w0 w' (XO g { s with v := s.v.take (baseOf s.fr + h).toNat ++ s.v.drop (s.v.length - c) } :: L) := by
  obtain ⟨A, c0, Af, cf, s0, s1, s2, hc, hcf, hC⟩ := xo_cells hS
  have h2 : hasN s c := ⟨by omega, by omega⟩
  have q52 := Aside0.mk (xBase hS (by omega))
  have HT := Aside0.mk (fun nd => xTakeOk (hS.drewN nd) hI hB hF c h2)
  obtain ⟨n, hn⟩ : ∃ n, s.fr.length = n + 1 := ⟨s.fr.length - 1, by have := List.length_pos_iff.2 hf; omega⟩
  rw [hn] at s1
  have hbase := hI.base
  have hvl := hI.vl
  obtain ⟨b, hb⟩ := Int.eq_ofNat_of_zero_le hbase.1
  obtain ⟨m, hm⟩ : ∃ m, s.v.length - c = m := ⟨_, rfl⟩
  obtain ⟨b0, hb0⟩ : ∃ b0, b0 = b := ⟨_, rfl⟩
  obtain ⟨t, ht⟩ : ∃ t, b + h = t := ⟨_, rfl⟩
  have hbm : t ≤ m := by have := h2h.2; omega
  obtain ⟨o, ho⟩ : ∃ o, s.v.length - b = o := ⟨_, rfl⟩
  obtain ⟨o2, ho2⟩ : ∃ o2, o - h = o2 := ⟨_, rfl⟩
  have hho : h ≤ o := by have := h2h.2; omega
  have hw : IntKind.i64.wrap ((s.v.length : Int) - (b : Int)) = (o : Int) := by rw [IntKind.wrap_i64]; omega
  have hw2 : IntKind.i64.wrap ((o : Int) - (h : Int)) = (o2 : Int) := by rw [IntKind.wrap_i64]; omega
  have hw3 : IntKind.i64.wrap ((b : Int) + (h : Int)) = (t : Int) := by rw [IntKind.wrap_i64]; omega
  have d2 : decide ((h : Int) < 0) = false := decide_eq_false (by omega)
  have d3 : decide ((c : Int) < 0) = false := decide_eq_false (by omega)
  have d4 : decide ((o : Int) < (h : Int)) = false := decide_eq_false (by omega)
  have d4' : decide (o < h) = false := decide_eq_false (by omega)
  have d5 : decide ((o2 : Int) < (c : Int)) = false := decide_eq_false (by omega)
  have d5' : decide (o2 < c) = false := decide_eq_false (by omega)
  have hml : m ≤ s.v.length := by omega
  have hn64 : n + 1 ≤ 64 := by omega
  rw [hm] at HT ⊢
  rw [hb] at q52
  rw [hb, show ((b : Int) + (h : Int)).toNat = t by omega]
  have hwn : IntKind.i64.wrap (n : Int) = (n : Int) := by rw [IntKind.wrap_i64]; omega
  have HN := Aside0.mk hn
  have HB := Aside0.mk hb
  clear hS hI h2 h2h h2c hf hn hm hbase hC hb hc hcf ht ho ho2 hb0
  go_enter Try.func47, Try.ntmps47
  go_wp2
  go_quiet ((go_at_call 52; with_reducible exact Calls.quiet_of (q52.out _)))
  go_wp2_with (go_at_call 44; go_must ((with_reducible refine (HT.out _).mono ?_); rintro e w3 ⟨v3, rfl, hs⟩; have HS3 := Aside0.mk hs; clear hs))
  obtain ⟨v, vf, z, hz, h1⟩ := HS3.out.swap.xopen
  obtain ⟨A5, c5, rfl, hc5, _⟩ := (h1.pick2 [1]).reads
  obtain ⟨Af5, cf5, rfl, hcf5, _⟩ := (h1.pick3 [2]).reads
  obtain ⟨A3, c3, rfl, hc3, _⟩ := (h1.pick5 [4]).reads
  have hvl5 : (s.v.take m).length = m := by simp; omega
  have hzl : z.length = n + 1 := by have := congrArg List.length hz; have := HN.out; simp at *; omega
  have hzl4 : (z.map fm4).length = n + 1 := by rw [List.length_map, hzl]
  simp only [hvl5, hzl4] at h1 hc5 hcf5
  obtain ⟨xsL, hxsL⟩ : ∃ xs, s.v.drop m = xs := ⟨_, rfl⟩
  rw [hxsL] at h1 hc3 ⊢
  have hxl : xsL.length ≤ 1000000 := by rw [← hxsL]; simp; omega
  have hcut := cut22 A5 m c5 t hbm hc5
  have HDF := Aside0.mk h1.drew
  have HXL := Aside0.mk hxsL
  have HZ := Aside0.mk hz
  have HZL := Aside0.mk hzl
  clear h1 HS3 hxsL hz hzl hzl4
  refine rg_startL (n := 13) (S := fun w' => True) (bm 13 0) (by kernel_rfl) rfl (by kernel_rfl) (trivial) (fun wd hwd hHeld => ?_)
  refine rg_take (i := 0) (N := some 50) (v := ?_) (a' := ?_) (bm 13 1) rfl rfl (by kernel_rfl) (fun _ _ _ h => h) hHeld (Or.inl ⟨by rfl, ?_⟩) ?_ ?_
  rotate_left
  · intro w' hw'
    go_simp
    with_reducible rfl
  rotate_left
  · simp only [Act.put, List.setIfInBounds_toArray, List.set_cons_zero, List.set_cons_succ]
    rfl
  refine rg_take (i := 1) (N := some 51) (v := ?_) (a' := ?_) (bm 13 3) rfl rfl (by kernel_rfl) (fun _ _ _ h => h) hHeld (Or.inl ⟨by rfl, ?_⟩) ?_ ?_
  rotate_left
  · intro w' hw'
    go_simp
    with_reducible rfl
  rotate_left
  · simp only [Act.put, List.setIfInBounds_toArray, List.set_cons_zero, List.set_cons_succ]
    rfl
  refine rg_take (i := 2) (N := some 52) (v := ?_) (a' := ?_) (bm 13 7) rfl rfl (by kernel_rfl) (fun _ _ _ h => h) hHeld (Or.inl ⟨by rfl, ?_⟩) ?_ ?_
  rotate_left
  · intro w' hw'
    go_simp
    with_reducible rfl
  rotate_left
  · simp only [Act.put, List.setIfInBounds_toArray, List.set_cons_zero, List.set_cons_succ]
    rfl
  refine rg_take (i := 3) (N := some 53) (v := ?_) (a' := ?_) (bm 13 15) rfl rfl (by kernel_rfl) (fun _ _ _ h => h) hHeld (Or.inl ⟨by rfl, ?_⟩) ?_ ?_
  rotate_left
  · intro w' hw'
    go_simp
    with_reducible rfl
  rotate_left
  · simp only [Act.put, List.setIfInBounds_toArray, List.set_cons_zero, List.set_cons_succ]
    rfl
  refine rg_take (i := 5) (N := some 55) (v := ?_) (a' := ?_) (bm 13 47) rfl rfl (by kernel_rfl) (fun _ _ _ h => h) hHeld (Or.inl ⟨by rfl, ?_⟩) ?_ ?_
  rotate_left
  · intro w' hw'
    go_simp
    with_reducible rfl
  rotate_left
  · simp only [Act.put, List.setIfInBounds_toArray, List.set_cons_zero, List.set_cons_succ]
    rfl
  refine rg_take (i := 7) (N := some 57) (v := ?_) (a' := ?_) (bm 13 175) rfl rfl (by kernel_rfl) (fun _ _ _ h => h) hHeld (Or.inl ⟨by rfl, ?_⟩) ?_ ?_
  rotate_left
  · intro w' hw'
    go_simp
    with_reducible rfl
  rotate_left
  · simp only [Act.put, List.setIfInBounds_toArray, List.set_cons_zero, List.set_cons_succ]
    rfl
  refine rg_ready [4, 6] (by kernel_rfl) (by simp) ?_
  refine rg_one (i := 4) (N := some 54) (bm 13 191) rfl rfl (by kernel_rfl) (fun K hK => ?_) ?_
  · skip
    first
      | (have hb4 := HD6.out.blk; have s0 : _ = some (Value.slice A5 m c5) := blk_cell hb4 0; clear hb4)
      | (have hb4 := (SB.pick2 (hwd.out ▸ HDF.out) [0]).blk; have s0 : _ = some (Value.slice A5 m c5) := blk_cell hb4 0; clear hb4)
    refine value_ (w1 := ?_) (v := ?_) (by rfl) rfl ?_ ?_
    rotate_left 2
    · go_simp
      constructor
      · rfl
      · rfl
    have hnew : True := trivial
    refine hK.out _ _ hnew ?_
    clear hK K
    refine rg_norm (a' := ?_) ?_ ?_
    rotate_left
    · simp only [Act.put, List.setIfInBounds_toArray, List.set_cons_zero, List.set_cons_succ]
      rfl
    clear hHeld
    have hHeld := hnew
    clear hnew
    refine rg_ready [6] (by kernel_rfl) (by simp) ?_
    refine rg_one (i := 6) (N := some 56) (bm 13 255) rfl rfl (by kernel_rfl) (fun K hK => ?_) rg_nil
    have HD := Aside0.mk (hwd.out ▸ HDF.out)
    have hq := Aside0.mk (xBase0 (SB.xclose (s := { s with v := s.v.take m }) HZ.out HD.out) (by rw [show (FS.mk (s.v.take m) s.fr s.room).fr.length = n + 1 from HN.out]; omega))
    rw [show baseOf (FS.mk (s.v.take m) s.fr s.room).fr = (b : Int) from HB.out] at hq
    go_simp
    go_at_call 52
    with_reducible refine (hq.out).mono ?_
    rintro e wx4x6r5 ⟨rfl, ⟨nd6, rfl⟩⟩
    have HD6 := Aside0.mk (HD.out.drewN nd6)
    have hnew : True := trivial
    clear hq
    go_wp2_with fail
    refine hK.out _ _ hnew ?_
    clear hK K
    refine rg_norm (a' := ?_) ?_ ?_
    rotate_left
    · simp only [Act.put, List.setIfInBounds_toArray, List.set_cons_zero, List.set_cons_succ]
      rfl
    clear hHeld
    have hHeld := hnew
    clear hnew
    refine rg_take (i := 8) (N := some 58) (v := ?_) (a' := ?_) (bm 13 511) rfl rfl (by kernel_rfl) (fun _ _ _ h => h) hHeld (Or.inl ⟨by rfl, ?_⟩) ?_ ?_
    rotate_left
    · intro w' hw'
      go_simp
      with_reducible rfl
    rotate_left
    · simp only [Act.put, List.setIfInBounds_toArray, List.set_cons_zero, List.set_cons_succ]
      rfl
    refine rg_take (i := 9) (N := some 59) (v := ?_) (a' := ?_) (bm 13 1023) rfl rfl (by kernel_rfl) (fun _ _ _ h => h) hHeld (Or.inl ⟨by rfl, ?_⟩) ?_ ?_
    rotate_left
    · intro w' hw'
      go_simp
      with_reducible rfl
    rotate_left
    · simp only [Act.put, List.setIfInBounds_toArray, List.set_cons_zero, List.set_cons_succ]
      rfl
    refine rg_take (i := 10) (N := some 60) (v := ?_) (a' := ?_) (bm 13 2047) rfl rfl (by kernel_rfl) (fun _ _ _ h => h) hHeld (Or.inl ⟨by rfl, ?_⟩) ?_ ?_
    rotate_left
    · intro w' hw'
      go_simp
      with_reducible rfl
    rotate_left
    · simp only [Act.put, List.setIfInBounds_toArray, List.set_cons_zero, List.set_cons_succ]
      rfl
    refine rg_take (i := 11) (N := some 61) (v := ?_) (a' := ?_) (bm 13 4095) rfl rfl (by kernel_rfl) (fun _ _ _ h => h) hHeld (Or.inl ⟨by rfl, ?_⟩) ?_ ?_
    rotate_left
    · intro w' hw'
      go_simp
      with_reducible rfl
    rotate_left
    · simp only [Act.put, List.setIfInBounds_toArray, List.set_cons_zero, List.set_cons_succ]
      rfl
    refine rg_ready [12] (by kernel_rfl) (by simp) ?_
    refine rg_one (i := 12) (N := none) (bm 13 8191) rfl rfl (by kernel_rfl) (fun K hK => ?_) rg_nil
    have hb10 := HD6.out.blk
    have x0 := blk_cell hb10 0
    have f0 := blk_frozen hb10 0
    have HD10 := Aside0.mk (HD6.out.set1 0 (.slice A5 t c5))
    have hnew : True := trivial
    clear hb10
    go_simp
    refine hK.out undef _ hnew ?_
    clear hK K
    refine rg_norm (a' := ?_) ?_ ?_
    rotate_left
    · simp only [Act.put, List.setIfInBounds_toArray, List.set_cons_zero, List.set_cons_succ]
      rfl
    clear hHeld
    have hHeld := hnew
    clear hnew
    refine rg_done (by kernel_rfl) ?_
    have hb11 := HD10.out.blk
    have y0 := blk_cell hb11 0
    have hq1 := SB.rowTake (HD10.out.pick5 [1, 0, 2, 3, 4]) t (by rw [hvl5]; exact hbm)
    have htk : (s.v.take m).take t = s.v.take t := by rw [List.take_take, Nat.min_eq_left hbm]
    rw [htk] at hq1
    obtain ⟨AL', cL', eL, hcL, hCL⟩ := (hq1.pick5 [4]).reads
    injection eL with eL1 eL2 eL3
    clear eL2
    subst eL1
    subst eL3
    have hbl : (s.v.take t).length ≤ 100000 := by simp; omega
    have HQ1 := Aside0.mk hq1
    have HCL := Aside0.mk hCL
    clear hq1 hCL hb11 htk
    go_wp2_with ((with_reducible refine gate_builtin (b := .append) (xs := #[.tmp 66, .tmp 67]) rfl ?_); at_builtin; go_must ((refine SB.appRows (ys := xsL) HQ1.out rfl (.tmp 66) (.tmp 67) 22 (.int .u64 0) 8 rfl Try.underlying22 info35 rfl (by decide) (by decide) rfl rfl (fun _ _ h => h) HCL.out (by omega) ?_); intro v12 w12 hs12; obtain ⟨A12, c12, rfl, _, _⟩ := hs12.reads; obtain ⟨xs12, hx12⟩ : ∃ xs, s.v.take t ++ xsL = xs := ⟨_, rfl⟩; rw [hx12] at hs12 ⊢; have HX12 := Aside0.mk hx12; have hb12 := (hs12.pick2 [1]).blk; have z0 := blk_cell hb12 0; have z1 := blk_frozen hb12 0; have HS12 := Aside0.mk (show SB w0 _ (Box g #[.slice A12 xs12.length c12, .slice Af5 (n + 1) cf5, .int .i64 s.room] 56 :: Row (Kd.int .u64) 35 (.slice A12 xs12.length c12) xs12 :: Row (Kd.raw 4) 61 (.slice Af5 (n + 1) cf5) (z.map fm4) :: Sep (rowsOf z) :: L) from (((hs12.pick2 [1, 0]).set1 0 (.slice A12 xs12.length c12))).pick5 [0, 1, 2, 3]); clear hs12 hb12 hx12))
    go_ret
    refine ⟨rfl, ?_⟩
    rw [HXL.out, HX12.out]
    exact SB.xclose (s := { s with v := xs12 }) HZ.out HS12.out
  refine rg_one (i := 6) (N := some 56) (bm 13 239) rfl rfl (by kernel_rfl) (fun K hK => ?_) ?_
  · skip
    have HD := Aside0.mk (hwd.out ▸ HDF.out)
    have hq := Aside0.mk (xBase0 (SB.xclose (s := { s with v := s.v.take m }) HZ.out HD.out) (by rw [show (FS.mk (s.v.take m) s.fr s.room).fr.length = n + 1 from HN.out]; omega))
    rw [show baseOf (FS.mk (s.v.take m) s.fr s.room).fr = (b : Int) from HB.out] at hq
    go_simp
    go_at_call 52
    with_reducible refine (hq.out).mono ?_
    rintro e wx6r5 ⟨rfl, ⟨nd6, rfl⟩⟩
    have HD6 := Aside0.mk (HD.out.drewN nd6)
    have hnew : True := trivial
    clear hq
    go_wp2_with fail
    refine hK.out _ _ hnew ?_
    clear hK K
    refine rg_norm (a' := ?_) ?_ ?_
    rotate_left
    · simp only [Act.put, List.setIfInBounds_toArray, List.set_cons_zero, List.set_cons_succ]
      rfl
    clear hHeld
    have hHeld := hnew
    clear hnew
    refine rg_take (i := 8) (N := some 58) (v := ?_) (a' := ?_) (bm 13 495) rfl rfl (by kernel_rfl) (fun _ _ _ h => h) hHeld (Or.inl ⟨by rfl, ?_⟩) ?_ ?_
    rotate_left
    · intro w' hw'
      go_simp
      with_reducible rfl
    rotate_left
    · simp only [Act.put, List.setIfInBounds_toArray, List.set_cons_zero, List.set_cons_succ]
      rfl
    refine rg_ready [4] (by kernel_rfl) (by simp) ?_
    refine rg_one (i := 4) (N := some 54) (bm 13 511) rfl rfl (by kernel_rfl) (fun K hK => ?_) rg_nil
    first
      | (have hb4 := HD6.out.blk; have s0 : _ = some (Value.slice A5 m c5) := blk_cell hb4 0; clear hb4)
      | (have hb4 := (SB.pick2 (hwd.out ▸ HDF.out) [0]).blk; have s0 : _ = some (Value.slice A5 m c5) := blk_cell hb4 0; clear hb4)
    refine value_ (w1 := ?_) (v := ?_) (by rfl) rfl ?_ ?_
    rotate_left 2
    · go_simp
      constructor
      · rfl
      · rfl
    have hnew : True := trivial
    refine hK.out _ _ hnew ?_
    clear hK K
    refine rg_norm (a' := ?_) ?_ ?_
    rotate_left
    · simp only [Act.put, List.setIfInBounds_toArray, List.set_cons_zero, List.set_cons_succ]
      rfl
    clear hHeld
    have hHeld := hnew
    clear hnew
    refine rg_take (i := 9) (N := some 59) (v := ?_) (a' := ?_) (bm 13 1023) rfl rfl (by kernel_rfl) (fun _ _ _ h => h) hHeld (Or.inl ⟨by rfl, ?_⟩) ?_ ?_
    rotate_left
    · intro w' hw'
      go_simp
      with_reducible rfl
    rotate_left
    · simp only [Act.put, List.setIfInBounds_toArray, List.set_cons_zero, List.set_cons_succ]
      rfl
    refine rg_take (i := 10) (N := some 60) (v := ?_) (a' := ?_) (bm 13 2047) rfl rfl (by kernel_rfl) (fun _ _ _ h => h) hHeld (Or.inl ⟨by rfl, ?_⟩) ?_ ?_
    rotate_left
    · intro w' hw'
      go_simp
      with_reducible rfl
    rotate_left
    · simp only [Act.put, List.setIfInBounds_toArray, List.set_cons_zero, List.set_cons_succ]
      rfl
    refine rg_take (i := 11) (N := some 61) (v := ?_) (a' := ?_) (bm 13 4095) rfl rfl (by kernel_rfl) (fun _ _ _ h => h) hHeld (Or.inl ⟨by rfl, ?_⟩) ?_ ?_
    rotate_left
    · intro w' hw'
      go_simp
      with_reducible rfl
    rotate_left
    · simp only [Act.put, List.setIfInBounds_toArray, List.set_cons_zero, List.set_cons_succ]
      rfl
    refine rg_ready [12] (by kernel_rfl) (by simp) ?_
    refine rg_one (i := 12) (N := none) (bm 13 8191) rfl rfl (by kernel_rfl) (fun K hK => ?_) rg_nil
    have hb10 := HD6.out.blk
    have x0 := blk_cell hb10 0
    have f0 := blk_frozen hb10 0
    have HD10 := Aside0.mk (HD6.out.set1 0 (.slice A5 t c5))
    have hnew : True := trivial
    clear hb10
    go_simp
    refine hK.out undef _ hnew ?_
    clear hK K
    refine rg_norm (a' := ?_) ?_ ?_
    rotate_left
    · simp only [Act.put, List.setIfInBounds_toArray, List.set_cons_zero, List.set_cons_succ]
      rfl
    clear hHeld
    have hHeld := hnew
    clear hnew
    refine rg_done (by kernel_rfl) ?_
    have hb11 := HD10.out.blk
    have y0 := blk_cell hb11 0
    have hq1 := SB.rowTake (HD10.out.pick5 [1, 0, 2, 3, 4]) t (by rw [hvl5]; exact hbm)
    have htk : (s.v.take m).take t = s.v.take t := by rw [List.take_take, Nat.min_eq_left hbm]
    rw [htk] at hq1
    obtain ⟨AL', cL', eL, hcL, hCL⟩ := (hq1.pick5 [4]).reads
    injection eL with eL1 eL2 eL3
    clear eL2
    subst eL1
    subst eL3
    have hbl : (s.v.take t).length ≤ 100000 := by simp; omega
    have HQ1 := Aside0.mk hq1
    have HCL := Aside0.mk hCL
    clear hq1 hCL hb11 htk
    go_wp2_with ((with_reducible refine gate_builtin (b := .append) (xs := #[.tmp 66, .tmp 67]) rfl ?_); at_builtin; go_must ((refine SB.appRows (ys := xsL) HQ1.out rfl (.tmp 66) (.tmp 67) 22 (.int .u64 0) 8 rfl Try.underlying22 info35 rfl (by decide) (by decide) rfl rfl (fun _ _ h => h) HCL.out (by omega) ?_); intro v12 w12 hs12; obtain ⟨A12, c12, rfl, _, _⟩ := hs12.reads; obtain ⟨xs12, hx12⟩ : ∃ xs, s.v.take t ++ xsL = xs := ⟨_, rfl⟩; rw [hx12] at hs12 ⊢; have HX12 := Aside0.mk hx12; have hb12 := (hs12.pick2 [1]).blk; have z0 := blk_cell hb12 0; have z1 := blk_frozen hb12 0; have HS12 := Aside0.mk (show SB w0 _ (Box g #[.slice A12 xs12.length c12, .slice Af5 (n + 1) cf5, .int .i64 s.room] 56 :: Row (Kd.int .u64) 35 (.slice A12 xs12.length c12) xs12 :: Row (Kd.raw 4) 61 (.slice Af5 (n + 1) cf5) (z.map fm4) :: Sep (rowsOf z) :: L) from (((hs12.pick2 [1, 0]).set1 0 (.slice A12 xs12.length c12))).pick5 [0, 1, 2, 3]); clear hs12 hb12 hx12))
    go_ret
    refine ⟨rfl, ?_⟩
    rw [HXL.out, HX12.out]
    exact SB.xclose (s := { s with v := xs12 }) HZ.out HS12.out
  exact rg_nil
end Go.Proofs.Ytbbgkelcdooabaa.G
