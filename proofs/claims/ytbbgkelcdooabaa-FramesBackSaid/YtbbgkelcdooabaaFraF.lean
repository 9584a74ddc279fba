/- Package frames' stacks: Leave, Cut. -/
import Derived.Deep.DeepMust
import Derived.Test.YtbbgkelcdooabaaFraE
namespace Go.Proofs.Ytbbgkelcdooabaa.G
open Go.RowKit Go.Proofs.YtbbgkelcdooabaaW.PrintWords Go.Proofs.YtbbgkelcdooabaaW.PrintLast Go.Proofs.YtbbgkelcdooabaaW.PrintMore
set_option linter.unusedVariables false
set_option linter.unusedSimpArgs false
theorem frLeaveNone {w0 w : World} {L : List As} {p : Nat} {s : FS} (hS : SB w0 w (FO p s :: L)) (c : Int) (hf : s.fr = []) :
    Calls Try.prog 14 #[.pointer (some ⟨p, 0, none⟩), .int .i64 c] w fun e w' => e = .returned (.bool false) ∧ SB w0 w' (FO p s :: L) := by
  obtain ⟨v, z, hz, hk, h1⟩ := hS.open_
  have hb := h1.blk
  have hzl : z.length = 0 := by have := congrArg List.length hz; rw [hf] at this; simpa using this
  have hn : w.cell? ⟨p, 257, none⟩ = some (.int .i64 0) := by rw [fsC_b _ _ _ hb 257 (by omega)]; unfold cellAt; rw [hzl]; rfl
  have HS := Aside0.mk hS
  clear hS h1 hb hzl
  go_enter Try.func14, Try.ntmps14
  go_wp2_with (go_at_call 34; (with_reducible refine (frTop0 p _ hn).mono ?_); rintro e w' ⟨rfl, ⟨nd, rfl⟩⟩)
  go_ret
  exact ⟨rfl, HS.out.drewN _⟩
theorem fr_top {w0 w : World} {L : List As} {p : Nat} {s : FS} (hS : SB w0 w (FO p s :: L)) (n : Nat) (hn : s.fr.length = n + 1) :
    n < 64 ∧ w.cell? ⟨p, 257, none⟩ = some (.int .i64 ((n + 1 : Nat) : Int)) := by
  obtain ⟨v, z, hz, hk, h1⟩ := hS.open_
  have hb := h1.blk
  have hzl : z.length = n + 1 := by have := congrArg List.length hz; rw [← hn]; simpa using this
  refine ⟨by have := hk.len; have := hk.room; omega, ?_⟩
  rw [fsC_b _ _ _ hb 257 (by omega), ← hzl]
  rfl
theorem frLeaveNo {w0 w : World} {L : List As} {p : Nat} {s : FS} (hS : SB w0 w (FO p s :: L)) (hl : s.v.length ≤ 1000000) (c : Int) (hq : s.fr ≠ [] → ¬ hasN s c) :
    Calls Try.prog 14 #[.pointer (some ⟨p, 0, none⟩), .int .i64 c] w fun e w' => e = .returned (.bool false) ∧ SB w0 w' (FO p s :: L) := by
  by_cases hf : s.fr = []
  · exact frLeaveNone hS c hf
  obtain ⟨n, hn⟩ : ∃ n, s.fr.length = n + 1 := ⟨s.fr.length - 1, by have := List.length_pos_iff.2 hf; omega⟩
  obtain ⟨h64, hc⟩ := fr_top hS n hn
  have HH := Aside0.mk (fun nd => (decide_eq_false (hq hf)) ▸ frHasS (hS.drewN nd) hl c)
  have HS := Aside0.mk hS
  clear hS hq hf hn
  go_enter Try.func14, Try.ntmps14
  go_wp2_with (first
    | (go_at_call 34; (with_reducible refine (frTop p n _ h64 hc).mono ?_); rintro e w' ⟨rfl, ⟨nd, rfl⟩⟩)
    | (go_at_call 32; go_must ((with_reducible refine (HH.out _).mono ?_)); rintro e w' ⟨rfl, ⟨nd2, rfl⟩⟩))
  go_ret
  exact ⟨rfl, HS.out.drewN _⟩
theorem blk_one (cs : Array Value) (i : Nat) (v : Value) (h : i < cs.size) : (cs.setIfInBounds i v)[i]? = some v := by
  rw [Array.getElem?_setIfInBounds, if_pos rfl, if_pos h]
theorem blk_have {w : World} {p t : Nat} {cs : Array Value} (hb : w.heap[p]? = some (.cells cs t (0, 0))) (i : Nat) (hi : i < cs.size) : w.cell? ⟨p, i, none⟩ = some cs[i] := by
  rw [blk_cell hb i, Array.getElem?_eq_getElem hi]
theorem AtB_of {w : World} {p : Nat} {v : Value} {z : List (Fm × Value)} {r : Int} {s : FS} (hb : w.heap[p]? = some (.cells (fsC v z r) 72 (0, 0))) (hz : z.map Prod.fst = s.fr) (hk : s.ok) : AtB w p s.fr.length (baseOf s.fr) := by
  have hzl : z.length = s.fr.length := by have := congrArg List.length hz; simpa using this
  have h := atB hb (by have := hk.len; have := hk.room; omega)
  rw [hz, hzl] at h
  exact h
theorem frLeaveOk {w0 w : World} {L : List As} {p : Nat} {s : FS} (hS : SB w0 w (FO p s :: L)) (hl : s.v.length ≤ 1000000) (c : Nat) (hf : s.fr ≠ []) (hq : hasN s c) :
    Calls Try.prog 14 #[.pointer (some ⟨p, 0, none⟩), .int .i64 (c : Int)] w fun e w' => e = .returned (.bool true) ∧
      SB w0 w' (FO p { s with v := s.v.take (baseOf s.fr).toNat ++ s.v.drop (s.v.length - c), fr := s.fr.dropLast } :: L) := by
  obtain ⟨n, hn⟩ : ∃ n, s.fr.length = n + 1 := ⟨s.fr.length - 1, by have := List.length_pos_iff.2 hf; omega⟩
  obtain ⟨h64, hc⟩ := fr_top hS n hn
  have HH := Aside0.mk (fun nd => (decide_eq_true hq) ▸ frHasS (hS.drewN nd) hl c)
  have HT := Aside0.mk (fun nd => frTakeOk (hS.drewN nd) hl c hq)
  obtain ⟨_, _, _, hk, _⟩ := hS.open_
  obtain ⟨b, hb⟩ := Int.eq_ofNat_of_zero_le (baseOf_ok hk).1
  obtain ⟨m, hm⟩ : ∃ m, s.v.length - c = m := ⟨_, rfl⟩
  have hbm : b ≤ m := by have := hq.2; omega
  have hml : m ≤ s.v.length := by omega
  rw [hm] at HT ⊢
  rw [hb, Int.toNat_natCast]
  have hwn : IntKind.i64.wrap (((n + 1 : Nat) : Int) - 1) = (n : Int) := by rw [IntKind.wrap_i64]; omega
  have HK := Aside0.mk hk
  have HN := Aside0.mk hn
  have HB := Aside0.mk hb
  clear hS hq hf hn hk hm
  go_enter Try.func14, Try.ntmps14
  go_wp2_with (first
    | (go_at_call 34; (with_reducible refine (frTop p n _ h64 hc).mono ?_); rintro e w' ⟨rfl, ⟨nd, rfl⟩⟩)
    | (go_at_call 32; go_must ((with_reducible refine (HH.out _).mono ?_)); rintro e w' ⟨rfl, ⟨nd2, rfl⟩⟩)
    | (go_at_call 33; go_must ((with_reducible refine (HT.out _).mono ?_); rintro e w3 ⟨vL, rfl, hs⟩; have HT3 := Aside0.mk hs; clear hs)))
  obtain ⟨v, z, hz, hk, h1⟩ := HT3.out.swap.open_
  obtain ⟨A0, c0, rfl, hc0, _⟩ := h1.swap.reads
  have hvl : (s.v.take m).length = m := by simp; omega
  have hzl : z.length = n + 1 := by have := congrArg List.length hz; have := HN.out; simp at *; omega
  simp only [hvl] at h1 hc0
  have h1 := h1.drew
  obtain ⟨AL, cL, rfl, hcL, _⟩ := (h1.pick4 [3]).reads
  obtain ⟨xsL, hxsL⟩ : ∃ xs, s.v.drop m = xs := ⟨_, rfl⟩
  rw [hxsL] at h1 hcL ⊢
  have hxl : xsL.length ≤ 1000000 := by rw [← hxsL]; simp; omega
  have hcut := cut22 A0 m c0 b hbm hc0
  have HDF := Aside0.mk h1
  have HXL := Aside0.mk hxsL
  clear h1 HT3 hxsL
  refine rg_startL (n := 13) (S := fun w' => True) (bm 13 0) (by kernel_rfl) rfl (by kernel_rfl) (trivial) (fun wd hwd hHeld => ?_)
  refine rg_take (i := 0) (N := some 22) (v := ?_) (a' := ?_) (bm 13 1) rfl rfl (by kernel_rfl) (fun _ _ _ h => h) hHeld (Or.inl ⟨by rfl, ?_⟩) ?_ ?_
  rotate_left
  · intro w' hw'
    go_simp
    with_reducible rfl
  rotate_left
  · simp only [Act.put, List.setIfInBounds_toArray, List.set_cons_zero, List.set_cons_succ]
    rfl
  refine rg_take (i := 1) (N := some 23) (v := ?_) (a' := ?_) (bm 13 3) rfl rfl (by kernel_rfl) (fun _ _ _ h => h) hHeld (Or.inl ⟨by rfl, ?_⟩) ?_ ?_
  rotate_left
  · intro w' hw'
    go_simp
    with_reducible rfl
  rotate_left
  · simp only [Act.put, List.setIfInBounds_toArray, List.set_cons_zero, List.set_cons_succ]
    rfl
  refine rg_take (i := 2) (N := some 24) (v := ?_) (a' := ?_) (bm 13 7) rfl rfl (by kernel_rfl) (fun _ _ _ h => h) hHeld (Or.inl ⟨by rfl, ?_⟩) ?_ ?_
  rotate_left
  · intro w' hw'
    go_simp
    with_reducible rfl
  rotate_left
  · simp only [Act.put, List.setIfInBounds_toArray, List.set_cons_zero, List.set_cons_succ]
    rfl
  refine rg_take (i := 3) (N := some 25) (v := ?_) (a' := ?_) (bm 13 15) rfl rfl (by kernel_rfl) (fun _ _ _ h => h) hHeld (Or.inl ⟨by rfl, ?_⟩) ?_ ?_
  rotate_left
  · intro w' hw'
    go_simp
    with_reducible rfl
  rotate_left
  · simp only [Act.put, List.setIfInBounds_toArray, List.set_cons_zero, List.set_cons_succ]
    rfl
  refine rg_take (i := 5) (N := some 27) (v := ?_) (a' := ?_) (bm 13 47) rfl rfl (by kernel_rfl) (fun _ _ _ h => h) hHeld (Or.inl ⟨by rfl, ?_⟩) ?_ ?_
  rotate_left
  · intro w' hw'
    go_simp
    with_reducible rfl
  rotate_left
  · simp only [Act.put, List.setIfInBounds_toArray, List.set_cons_zero, List.set_cons_succ]
    rfl
  refine rg_take (i := 8) (N := some 30) (v := ?_) (a' := ?_) (bm 13 303) rfl rfl (by kernel_rfl) (fun _ _ _ h => h) hHeld (Or.inl ⟨by rfl, ?_⟩) ?_ ?_
  rotate_left
  · intro w' hw'
    go_simp
    with_reducible rfl
  rotate_left
  · simp only [Act.put, List.setIfInBounds_toArray, List.set_cons_zero, List.set_cons_succ]
    rfl
  refine rg_ready [4, 6] (by kernel_rfl) (by simp) ?_
  refine rg_one (i := 4) (N := some 26) (bm 13 319) rfl rfl (by kernel_rfl) (fun K hK => ?_) ?_
  · skip
    have HD := Aside0.mk (hwd.out ▸ HDF.out)
    have s0 : wd.cell? ⟨p, 0, none⟩ = some (.slice A0 m c0) := fsC_b _ _ _ HD.out.blk 0 (by omega)
    refine value_ (w1 := ?_) (v := ?_) (by rfl) rfl ?_ ?_
    rotate_left 2
    · go_simp
      constructor
      · rfl
      · rfl
    have hnew : True := trivial
    refine hK.out _ _ hnew ?_
    clear hK K
    refine rg_norm (a' := ?_) ?_ ?_
    rotate_left
    · simp only [Act.put, List.setIfInBounds_toArray, List.set_cons_zero, List.set_cons_succ]
      rfl
    clear hHeld
    have hHeld := hnew
    clear hnew
    refine rg_ready [6] (by kernel_rfl) (by simp) ?_
    refine rg_one (i := 6) (N := some 28) (bm 13 383) rfl rfl (by kernel_rfl) (fun K hK => ?_) rg_nil
    have HD := Aside0.mk (hwd.out ▸ HDF.out)
    have ha := AtB_of (s := s) HD.out.blk hz HK.out
    rw [HB.out] at ha
    go_simp
    go_at_call 35
    with_reducible refine (frBase p _ (b : Int) _ ha).mono ?_
    rintro e wx4x6r4 ⟨rfl, ⟨nd6, rfl⟩⟩
    have HD6 := Aside0.mk (HD.out.drewN nd6)
    have hnew : True := trivial
    clear ha
    go_wp2_with fail
    refine hK.out _ _ hnew ?_
    clear hK K
    refine rg_norm (a' := ?_) ?_ ?_
    rotate_left
    · simp only [Act.put, List.setIfInBounds_toArray, List.set_cons_zero, List.set_cons_succ]
      rfl
    clear hHeld
    have hHeld := hnew
    clear hnew
    refine rg_take (i := 7) (N := some 29) (v := ?_) (a' := ?_) (bm 13 511) rfl rfl (by kernel_rfl) (fun _ _ _ h => h) hHeld (Or.inl ⟨by rfl, ?_⟩) ?_ ?_
    rotate_left
    · intro w' hw'
      go_simp
      with_reducible rfl
    rotate_left
    · simp only [Act.put, List.setIfInBounds_toArray, List.set_cons_zero, List.set_cons_succ]
      rfl
    refine rg_ready [9] (by kernel_rfl) (by simp) ?_
    refine rg_one (i := 9) (N := some 31) (bm 13 1023) rfl rfl (by kernel_rfl) (fun K hK => ?_) rg_nil
    have hq1 := SB.rowTake (HD6.out.pick4 [1, 0, 2, 3]) b (by omega)
    have htk : (s.v.take m).take b = s.v.take b := by rw [List.take_take, Nat.min_eq_left hbm]
    rw [htk] at hq1
    obtain ⟨AL', cL', eL, _, hCL⟩ := (hq1.pick4 [3]).reads
    injection eL with eL1 eL2 eL3
    subst eL1
    subst eL3
    refine SB.appRowsStep (ys := xsL) hq1 (by rfl) (.tmp 29) (.tmp 30) 22 (.int .u64 0) 8 rfl Try.underlying22 info35 rfl (by decide) (by decide) rfl rfl (fun _ _ h => h) hCL (by simp; omega) ?_
    intro v5 wx4x6x9r4 hs5
    obtain ⟨A5, c5, rfl, hc5, _⟩ := hs5.reads
    obtain ⟨xs5, hxs5⟩ : ∃ xs, s.v.take b ++ xsL = xs := ⟨_, rfl⟩
    rw [hxs5] at hs5
    have HX5 := Aside0.mk hxs5
    rw [hxs5]
    have HD9 := Aside0.mk hs5.swap
    have hnew : True := trivial
    clear hq1 htk hCL hs5 hxs5
    refine hK.out _ _ hnew ?_
    clear hK K
    refine rg_norm (a' := ?_) ?_ ?_
    rotate_left
    · simp only [Act.put, List.setIfInBounds_toArray, List.set_cons_zero, List.set_cons_succ]
      rfl
    clear hHeld
    have hHeld := hnew
    clear hnew
    refine rg_take (i := 10) (N := some 32) (v := ?_) (a' := ?_) (bm 13 2047) rfl rfl (by kernel_rfl) (fun _ _ _ h => h) hHeld (Or.inl ⟨by rfl, ?_⟩) ?_ ?_
    rotate_left
    · intro w' hw'
      go_simp
      with_reducible rfl
    rotate_left
    · simp only [Act.put, List.setIfInBounds_toArray, List.set_cons_zero, List.set_cons_succ]
      rfl
    refine rg_take (i := 11) (N := some 33) (v := ?_) (a' := ?_) (bm 13 4095) rfl rfl (by kernel_rfl) (fun _ _ _ h => h) hHeld (Or.inl ⟨by rfl, ?_⟩) ?_ ?_
    rotate_left
    · intro w' hw'
      go_simp
      with_reducible rfl
    rotate_left
    · simp only [Act.put, List.setIfInBounds_toArray, List.set_cons_zero, List.set_cons_succ]
      rfl
    refine rg_ready [12] (by kernel_rfl) (by simp) ?_
    refine rg_one (i := 12) (N := none) (bm 13 8191) rfl rfl (by kernel_rfl) (fun K hK => ?_) rg_nil
    have hb9 := HD9.out.blk
    have x0 := fsC_b _ _ _ hb9 0 (by omega)
    have f0 := blk_frozen hb9 0
    have h12 := HD9.out.set1 0 (.slice A5 xs5.length c5)
    rw [fsC_set0] at h12
    have HD12 := Aside0.mk h12
    have hnew : True := trivial
    clear hb9 h12
    go_simp
    refine hK.out undef _ hnew ?_
    clear hK K
    refine rg_norm (a' := ?_) ?_ ?_
    rotate_left
    · simp only [Act.put, List.setIfInBounds_toArray, List.set_cons_zero, List.set_cons_succ]
      rfl
    clear hHeld
    have hHeld := hnew
    clear hnew
    refine rg_done (by kernel_rfl) ?_
    have hb12 := HD12.out.blk
    have t0 := fsC_b _ _ _ hb12 257 (by omega)
    have e0 : cellAt (.slice A5 xs5.length c5) z s.room 257 = .int .i64 ((n + 1 : Nat) : Int) := by rw [← hzl]; rfl
    rw [e0] at t0
    have t1 := blk_frozen hb12 257
    go_wp2
    have h13 := (HD12.out.set1 257 (.int .i64 (n : Int))).drew
    have u0 := (blk_cell h13.blk 257).trans (blk_one _ _ _ (by rw [fsC_size]; omega))
    have HDG := Aside0.mk h13
    clear h13 hb12
    refine rg_startL (n := 10) (S := fun w' => w'.cell? ⟨p, 257, none⟩ = some (.int .i64 (n : Int))) (bm 10 0) (by kernel_rfl) rfl (by kernel_rfl) (u0) (fun we hwe hHeld => ?_)
    refine rg_take (i := 0) (N := some 41) (v := ?_) (a' := ?_) (bm 10 1) rfl rfl (by kernel_rfl) (fun _ _ _ h => h) hHeld (Or.inl ⟨by rfl, ?_⟩) ?_ ?_
    rotate_left
    · intro w' hw'
      have s1 := hw'
      have hc1 : (n : Int) < 64 := by omega
      have hc2 : (0 : Int) ≤ (n : Int) := by omega
      go_simp
      with_reducible rfl
    rotate_left
    · simp only [Act.put, List.setIfInBounds_toArray, List.set_cons_zero, List.set_cons_succ]
      rfl
    refine rg_take (i := 1) (N := some 42) (v := ?_) (a' := ?_) (bm 10 3) rfl rfl (by kernel_rfl) (fun _ _ _ h => h) hHeld (Or.inl ⟨by rfl, ?_⟩) ?_ ?_
    rotate_left
    · intro w' hw'
      have s1 := hw'
      have hc1 : (n : Int) < 64 := by omega
      have hc2 : (0 : Int) ≤ (n : Int) := by omega
      go_simp
      with_reducible rfl
    rotate_left
    · simp only [Act.put, List.setIfInBounds_toArray, List.set_cons_zero, List.set_cons_succ]
      rfl
    refine rg_take (i := 2) (N := some 43) (v := ?_) (a' := ?_) (bm 10 7) rfl rfl (by kernel_rfl) (fun _ _ _ h => h) hHeld (Or.inl ⟨by rfl, ?_⟩) ?_ ?_
    rotate_left
    · intro w' hw'
      have s1 := hw'
      have hc1 : (n : Int) < 64 := by omega
      have hc2 : (0 : Int) ≤ (n : Int) := by omega
      go_simp
      with_reducible rfl
    rotate_left
    · simp only [Act.put, List.setIfInBounds_toArray, List.set_cons_zero, List.set_cons_succ]
      rfl
    refine rg_take (i := 3) (N := some 44) (v := ?_) (a' := ?_) (bm 10 15) rfl rfl (by kernel_rfl) (fun _ _ _ h => h) hHeld (Or.inl ⟨by rfl, ?_⟩) ?_ ?_
    rotate_left
    · intro w' hw'
      have s1 := hw'
      have hc1 : (n : Int) < 64 := by omega
      have hc2 : (0 : Int) ≤ (n : Int) := by omega
      go_simp
      with_reducible rfl
    rotate_left
    · simp only [Act.put, List.setIfInBounds_toArray, List.set_cons_zero, List.set_cons_succ]
      rfl
    refine rg_take (i := 4) (N := some 45) (v := ?_) (a' := ?_) (bm 10 31) rfl rfl (by kernel_rfl) (fun _ _ _ h => h) hHeld (Or.inl ⟨by rfl, ?_⟩) ?_ ?_
    rotate_left
    · intro w' hw'
      have s1 := hw'
      have hc1 : (n : Int) < 64 := by omega
      have hc2 : (0 : Int) ≤ (n : Int) := by omega
      go_simp
      with_reducible rfl
    rotate_left
    · simp only [Act.put, List.setIfInBounds_toArray, List.set_cons_zero, List.set_cons_succ]
      rfl
    refine rg_take (i := 5) (N := some 46) (v := ?_) (a' := ?_) (bm 10 63) rfl rfl (by kernel_rfl) (fun _ _ _ h => h) hHeld (Or.inl ⟨by rfl, ?_⟩) ?_ ?_
    rotate_left
    · intro w' hw'
      have s1 := hw'
      have hc1 : (n : Int) < 64 := by omega
      have hc2 : (0 : Int) ≤ (n : Int) := by omega
      go_simp
      with_reducible rfl
    rotate_left
    · simp only [Act.put, List.setIfInBounds_toArray, List.set_cons_zero, List.set_cons_succ]
      rfl
    refine rg_take (i := 6) (N := some 47) (v := ?_) (a' := ?_) (bm 10 127) rfl rfl (by kernel_rfl) (fun _ _ _ h => h) hHeld (Or.inl ⟨by rfl, ?_⟩) ?_ ?_
    rotate_left
    · intro w' hw'
      have s1 := hw'
      have hc1 : (n : Int) < 64 := by omega
      have hc2 : (0 : Int) ≤ (n : Int) := by omega
      go_simp
      with_reducible rfl
    rotate_left
    · simp only [Act.put, List.setIfInBounds_toArray, List.set_cons_zero, List.set_cons_succ]
      rfl
    refine rg_take (i := 7) (N := some 48) (v := ?_) (a' := ?_) (bm 10 255) rfl rfl (by kernel_rfl) (fun _ _ _ h => h) hHeld (Or.inl ⟨by rfl, ?_⟩) ?_ ?_
    rotate_left
    · intro w' hw'
      have s1 := hw'
      have hc1 : (n : Int) < 64 := by omega
      have hc2 : (0 : Int) ≤ (n : Int) := by omega
      go_simp
      with_reducible rfl
    rotate_left
    · simp only [Act.put, List.setIfInBounds_toArray, List.set_cons_zero, List.set_cons_succ]
      rfl
    refine rg_take (i := 8) (N := some 49) (v := ?_) (a' := ?_) (bm 10 511) rfl rfl (by kernel_rfl) (fun _ _ _ h => h) hHeld (Or.inl ⟨by rfl, ?_⟩) ?_ ?_
    rotate_left
    · intro w' hw'
      have s1 := hw'
      have hc1 : (n : Int) < 64 := by omega
      have hc2 : (0 : Int) ≤ (n : Int) := by omega
      go_simp
      with_reducible rfl
    rotate_left
    · simp only [Act.put, List.setIfInBounds_toArray, List.set_cons_zero, List.set_cons_succ]
      rfl
    refine rg_ready [9] (by kernel_rfl) (by simp) ?_
    refine rg_one (i := 9) (N := none) (bm 10 1023) rfl rfl (by kernel_rfl) (fun K hK => ?_) rg_nil
    have HDH := Aside0.mk (hwe.out ▸ HDG.out)
    have hb6 := HDH.out.blk
    have x0 := blk_have hb6 (1 + n * 4) (by rw [Array.size_setIfInBounds, fsC_size]; omega)
    have x1 := blk_have hb6 (1 + n * 4 + 1) (by rw [Array.size_setIfInBounds, fsC_size]; omega)
    have x2 := blk_have hb6 (1 + n * 4 + 2) (by rw [Array.size_setIfInBounds, fsC_size]; omega)
    have x3 := blk_have hb6 (1 + n * 4 + 3) (by rw [Array.size_setIfInBounds, fsC_size]; omega)
    have f0 := blk_frozen hb6 (1 + n * 4)
    have f1 := blk_frozen hb6 (1 + n * 4 + 1)
    have f2 := blk_frozen hb6 (1 + n * 4 + 2)
    have f3 := blk_frozen hb6 (1 + n * 4 + 3)
    have h14 := HDH.out.set4 (1 + n * 4) (.int .i64 0) (.int .i64 0) (.slice none 0 0) (.int .i64 0)
    have hb7 := h14.blk
    have hnew := ((blk_cell hb7 257).trans (blk_set4 _ _ _ _ (by omega))).trans (blk_one _ _ _ (by rw [fsC_size]; omega))
    have HDI := Aside0.mk h14
    clear hb6 h14 hb7
    go_simp
    refine hK.out undef _ hnew ?_
    clear hK K
    refine rg_norm (a' := ?_) ?_ ?_
    rotate_left
    · simp only [Act.put, List.setIfInBounds_toArray, List.set_cons_zero, List.set_cons_succ]
      rfl
    clear hHeld
    have hHeld := hnew
    clear hnew
    refine rg_done (by kernel_rfl) ?_
    go_wp2
    go_ret
    refine ⟨rfl, ?_⟩
    have h15 := HDI.out
    obtain ⟨z0, x, hzx⟩ : ∃ z0 x, z = z0 ++ [x] := by
      rcases List.eq_nil_or_concat z with h | ⟨z0, x, h⟩
      · rw [h] at hzl; simp at hzl
      · exact ⟨z0, x, by rw [h, List.concat_eq_append]⟩
    subst hzx
    have hz0 : z0.length = n := by simp at hzl; exact hzl
    rw [fsC_pop (.slice A5 xs5.length c5) z0 s.room x n hz0 h64, rowsOf_push] at h15
    have h16 := SB.sepPop (h15.pick4 [2, 0, 1])
    have h17 := h16.pick4 [2, 3, 1]
    have hzm : s.fr.dropLast = z0.map Prod.fst := by rw [← show List.map Prod.fst (z0 ++ [x]) = s.fr from hz, List.map_append]; simp
    have hkk := HK.out
    rw [HXL.out, HX5.out]
    exact SB.close_ (s := { s with v := xs5, fr := s.fr.dropLast }) hzm.symm ⟨hkk.room0, hkk.room, by have := hkk.len; simp; omega, fun f hf => hkk.base f (List.dropLast_subset _ hf)⟩ h17
  refine rg_one (i := 6) (N := some 28) (bm 13 367) rfl rfl (by kernel_rfl) (fun K hK => ?_) ?_
  · skip
    have HD := Aside0.mk (hwd.out ▸ HDF.out)
    have ha := AtB_of (s := s) HD.out.blk hz HK.out
    rw [HB.out] at ha
    go_simp
    go_at_call 35
    with_reducible refine (frBase p _ (b : Int) _ ha).mono ?_
    rintro e wx6r4 ⟨rfl, ⟨nd6, rfl⟩⟩
    have HD6 := Aside0.mk (HD.out.drewN nd6)
    have hnew : True := trivial
    clear ha
    go_wp2_with fail
    refine hK.out _ _ hnew ?_
    clear hK K
    refine rg_norm (a' := ?_) ?_ ?_
    rotate_left
    · simp only [Act.put, List.setIfInBounds_toArray, List.set_cons_zero, List.set_cons_succ]
      rfl
    clear hHeld
    have hHeld := hnew
    clear hnew
    refine rg_ready [4] (by kernel_rfl) (by simp) ?_
    refine rg_one (i := 4) (N := some 26) (bm 13 383) rfl rfl (by kernel_rfl) (fun K hK => ?_) rg_nil
    have HD := Aside0.mk (hwd.out ▸ HDF.out)
    have s0 : wd.cell? ⟨p, 0, none⟩ = some (.slice A0 m c0) := fsC_b _ _ _ HD.out.blk 0 (by omega)
    refine value_ (w1 := ?_) (v := ?_) (by rfl) rfl ?_ ?_
    rotate_left 2
    · go_simp
      constructor
      · rfl
      · rfl
    have hnew : True := trivial
    refine hK.out _ _ hnew ?_
    clear hK K
    refine rg_norm (a' := ?_) ?_ ?_
    rotate_left
    · simp only [Act.put, List.setIfInBounds_toArray, List.set_cons_zero, List.set_cons_succ]
      rfl
    clear hHeld
    have hHeld := hnew
    clear hnew
    refine rg_take (i := 7) (N := some 29) (v := ?_) (a' := ?_) (bm 13 511) rfl rfl (by kernel_rfl) (fun _ _ _ h => h) hHeld (Or.inl ⟨by rfl, ?_⟩) ?_ ?_
    rotate_left
    · intro w' hw'
      go_simp
      with_reducible rfl
    rotate_left
    · simp only [Act.put, List.setIfInBounds_toArray, List.set_cons_zero, List.set_cons_succ]
      rfl
    refine rg_ready [9] (by kernel_rfl) (by simp) ?_
    refine rg_one (i := 9) (N := some 31) (bm 13 1023) rfl rfl (by kernel_rfl) (fun K hK => ?_) rg_nil
    have hq1 := SB.rowTake (HD6.out.pick4 [1, 0, 2, 3]) b (by omega)
    have htk : (s.v.take m).take b = s.v.take b := by rw [List.take_take, Nat.min_eq_left hbm]
    rw [htk] at hq1
    obtain ⟨AL', cL', eL, _, hCL⟩ := (hq1.pick4 [3]).reads
    injection eL with eL1 eL2 eL3
    subst eL1
    subst eL3
    refine SB.appRowsStep (ys := xsL) hq1 (by rfl) (.tmp 29) (.tmp 30) 22 (.int .u64 0) 8 rfl Try.underlying22 info35 rfl (by decide) (by decide) rfl rfl (fun _ _ h => h) hCL (by simp; omega) ?_
    intro v5 wx6x4x9r4 hs5
    obtain ⟨A5, c5, rfl, hc5, _⟩ := hs5.reads
    obtain ⟨xs5, hxs5⟩ : ∃ xs, s.v.take b ++ xsL = xs := ⟨_, rfl⟩
    rw [hxs5] at hs5
    have HX5 := Aside0.mk hxs5
    rw [hxs5]
    have HD9 := Aside0.mk hs5.swap
    have hnew : True := trivial
    clear hq1 htk hCL hs5 hxs5
    refine hK.out _ _ hnew ?_
    clear hK K
    refine rg_norm (a' := ?_) ?_ ?_
    rotate_left
    · simp only [Act.put, List.setIfInBounds_toArray, List.set_cons_zero, List.set_cons_succ]
      rfl
    clear hHeld
    have hHeld := hnew
    clear hnew
    refine rg_take (i := 10) (N := some 32) (v := ?_) (a' := ?_) (bm 13 2047) rfl rfl (by kernel_rfl) (fun _ _ _ h => h) hHeld (Or.inl ⟨by rfl, ?_⟩) ?_ ?_
    rotate_left
    · intro w' hw'
      go_simp
      with_reducible rfl
    rotate_left
    · simp only [Act.put, List.setIfInBounds_toArray, List.set_cons_zero, List.set_cons_succ]
      rfl
    refine rg_take (i := 11) (N := some 33) (v := ?_) (a' := ?_) (bm 13 4095) rfl rfl (by kernel_rfl) (fun _ _ _ h => h) hHeld (Or.inl ⟨by rfl, ?_⟩) ?_ ?_
    rotate_left
    · intro w' hw'
      go_simp
      with_reducible rfl
    rotate_left
    · simp only [Act.put, List.setIfInBounds_toArray, List.set_cons_zero, List.set_cons_succ]
      rfl
    refine rg_ready [12] (by kernel_rfl) (by simp) ?_
    refine rg_one (i := 12) (N := none) (bm 13 8191) rfl rfl (by kernel_rfl) (fun K hK => ?_) rg_nil
    have hb9 := HD9.out.blk
    have x0 := fsC_b _ _ _ hb9 0 (by omega)
    have f0 := blk_frozen hb9 0
    have h12 := HD9.out.set1 0 (.slice A5 xs5.length c5)
    rw [fsC_set0] at h12
    have HD12 := Aside0.mk h12
    have hnew : True := trivial
    clear hb9 h12
    go_simp
    refine hK.out undef _ hnew ?_
    clear hK K
    refine rg_norm (a' := ?_) ?_ ?_
    rotate_left
    · simp only [Act.put, List.setIfInBounds_toArray, List.set_cons_zero, List.set_cons_succ]
      rfl
    clear hHeld
    have hHeld := hnew
    clear hnew
    refine rg_done (by kernel_rfl) ?_
    have hb12 := HD12.out.blk
    have t0 := fsC_b _ _ _ hb12 257 (by omega)
    have e0 : cellAt (.slice A5 xs5.length c5) z s.room 257 = .int .i64 ((n + 1 : Nat) : Int) := by rw [← hzl]; rfl
    rw [e0] at t0
    have t1 := blk_frozen hb12 257
    go_wp2
    have h13 := (HD12.out.set1 257 (.int .i64 (n : Int))).drew
    have u0 := (blk_cell h13.blk 257).trans (blk_one _ _ _ (by rw [fsC_size]; omega))
    have HDG := Aside0.mk h13
    clear h13 hb12
    refine rg_startL (n := 10) (S := fun w' => w'.cell? ⟨p, 257, none⟩ = some (.int .i64 (n : Int))) (bm 10 0) (by kernel_rfl) rfl (by kernel_rfl) (u0) (fun we hwe hHeld => ?_)
    refine rg_take (i := 0) (N := some 41) (v := ?_) (a' := ?_) (bm 10 1) rfl rfl (by kernel_rfl) (fun _ _ _ h => h) hHeld (Or.inl ⟨by rfl, ?_⟩) ?_ ?_
    rotate_left
    · intro w' hw'
      have s1 := hw'
      have hc1 : (n : Int) < 64 := by omega
      have hc2 : (0 : Int) ≤ (n : Int) := by omega
      go_simp
      with_reducible rfl
    rotate_left
    · simp only [Act.put, List.setIfInBounds_toArray, List.set_cons_zero, List.set_cons_succ]
      rfl
    refine rg_take (i := 1) (N := some 42) (v := ?_) (a' := ?_) (bm 10 3) rfl rfl (by kernel_rfl) (fun _ _ _ h => h) hHeld (Or.inl ⟨by rfl, ?_⟩) ?_ ?_
    rotate_left
    · intro w' hw'
      have s1 := hw'
      have hc1 : (n : Int) < 64 := by omega
      have hc2 : (0 : Int) ≤ (n : Int) := by omega
      go_simp
      with_reducible rfl
    rotate_left
    · simp only [Act.put, List.setIfInBounds_toArray, List.set_cons_zero, List.set_cons_succ]
      rfl
    refine rg_take (i := 2) (N := some 43) (v := ?_) (a' := ?_) (bm 10 7) rfl rfl (by kernel_rfl) (fun _ _ _ h => h) hHeld (Or.inl ⟨by rfl, ?_⟩) ?_ ?_
    rotate_left
    · intro w' hw'
      have s1 := hw'
      have hc1 : (n : Int) < 64 := by omega
      have hc2 : (0 : Int) ≤ (n : Int) := by omega
      go_simp
      with_reducible rfl
    rotate_left
    · simp only [Act.put, List.setIfInBounds_toArray, List.set_cons_zero, List.set_cons_succ]
      rfl
    refine rg_take (i := 3) (N := some 44) (v := ?_) (a' := ?_) (bm 10 15) rfl rfl (by kernel_rfl) (fun _ _ _ h => h) hHeld (Or.inl ⟨by rfl, ?_⟩) ?_ ?_
    rotate_left
    · intro w' hw'
      have s1 := hw'
      have hc1 : (n : Int) < 64 := by omega
      have hc2 : (0 : Int) ≤ (n : Int) := by omega
      go_simp
      with_reducible rfl
    rotate_left
    · simp only [Act.put, List.setIfInBounds_toArray, List.set_cons_zero, List.set_cons_succ]
      rfl
    refine rg_take (i := 4) (N := some 45) (v := ?_) (a' := ?_) (bm 10 31) rfl rfl (by kernel_rfl) (fun _ _ _ h => h) hHeld (Or.inl ⟨by rfl, ?_⟩) ?_ ?_
    rotate_left
    · intro w' hw'
      have s1 := hw'
      have hc1 : (n : Int) < 64 := by omega
      have hc2 : (0 : Int) ≤ (n : Int) := by omega
      go_simp
      with_reducible rfl
    rotate_left
    · simp only [Act.put, List.setIfInBounds_toArray, List.set_cons_zero, List.set_cons_succ]
      rfl
    refine rg_take (i := 5) (N := some 46) (v := ?_) (a' := ?_) (bm 10 63) rfl rfl (by kernel_rfl) (fun _ _ _ h => h) hHeld (Or.inl ⟨by rfl, ?_⟩) ?_ ?_
    rotate_left
    · intro w' hw'
      have s1 := hw'
      have hc1 : (n : Int) < 64 := by omega
      have hc2 : (0 : Int) ≤ (n : Int) := by omega
      go_simp
      with_reducible rfl
    rotate_left
    · simp only [Act.put, List.setIfInBounds_toArray, List.set_cons_zero, List.set_cons_succ]
      rfl
    refine rg_take (i := 6) (N := some 47) (v := ?_) (a' := ?_) (bm 10 127) rfl rfl (by kernel_rfl) (fun _ _ _ h => h) hHeld (Or.inl ⟨by rfl, ?_⟩) ?_ ?_
    rotate_left
    · intro w' hw'
      have s1 := hw'
      have hc1 : (n : Int) < 64 := by omega
      have hc2 : (0 : Int) ≤ (n : Int) := by omega
      go_simp
      with_reducible rfl
    rotate_left
    · simp only [Act.put, List.setIfInBounds_toArray, List.set_cons_zero, List.set_cons_succ]
      rfl
    refine rg_take (i := 7) (N := some 48) (v := ?_) (a' := ?_) (bm 10 255) rfl rfl (by kernel_rfl) (fun _ _ _ h => h) hHeld (Or.inl ⟨by rfl, ?_⟩) ?_ ?_
    rotate_left
    · intro w' hw'
      have s1 := hw'
      have hc1 : (n : Int) < 64 := by omega
      have hc2 : (0 : Int) ≤ (n : Int) := by omega
      go_simp
      with_reducible rfl
    rotate_left
    · simp only [Act.put, List.setIfInBounds_toArray, List.set_cons_zero, List.set_cons_succ]
      rfl
    refine rg_take (i := 8) (N := some 49) (v := ?_) (a' := ?_) (bm 10 511) rfl rfl (by kernel_rfl) (fun _ _ _ h => h) hHeld (Or.inl ⟨by rfl, ?_⟩) ?_ ?_
    rotate_left
    · intro w' hw'
      have s1 := hw'
      have hc1 : (n : Int) < 64 := by omega
      have hc2 : (0 : Int) ≤ (n : Int) := by omega
      go_simp
      with_reducible rfl
    rotate_left
    · simp only [Act.put, List.setIfInBounds_toArray, List.set_cons_zero, List.set_cons_succ]
      rfl
    refine rg_ready [9] (by kernel_rfl) (by simp) ?_
    refine rg_one (i := 9) (N := none) (bm 10 1023) rfl rfl (by kernel_rfl) (fun K hK => ?_) rg_nil
    have HDH := Aside0.mk (hwe.out ▸ HDG.out)
    have hb6 := HDH.out.blk
    have x0 := blk_have hb6 (1 + n * 4) (by rw [Array.size_setIfInBounds, fsC_size]; omega)
    have x1 := blk_have hb6 (1 + n * 4 + 1) (by rw [Array.size_setIfInBounds, fsC_size]; omega)
    have x2 := blk_have hb6 (1 + n * 4 + 2) (by rw [Array.size_setIfInBounds, fsC_size]; omega)
    have x3 := blk_have hb6 (1 + n * 4 + 3) (by rw [Array.size_setIfInBounds, fsC_size]; omega)
    have f0 := blk_frozen hb6 (1 + n * 4)
    have f1 := blk_frozen hb6 (1 + n * 4 + 1)
    have f2 := blk_frozen hb6 (1 + n * 4 + 2)
    have f3 := blk_frozen hb6 (1 + n * 4 + 3)
    have h14 := HDH.out.set4 (1 + n * 4) (.int .i64 0) (.int .i64 0) (.slice none 0 0) (.int .i64 0)
    have hb7 := h14.blk
    have hnew := ((blk_cell hb7 257).trans (blk_set4 _ _ _ _ (by omega))).trans (blk_one _ _ _ (by rw [fsC_size]; omega))
    have HDI := Aside0.mk h14
    clear hb6 h14 hb7
    go_simp
    refine hK.out undef _ hnew ?_
    clear hK K
    refine rg_norm (a' := ?_) ?_ ?_
    rotate_left
    · simp only [Act.put, List.setIfInBounds_toArray, List.set_cons_zero, List.set_cons_succ]
      rfl
    clear hHeld
    have hHeld := hnew
    clear hnew
    refine rg_done (by kernel_rfl) ?_
    go_wp2
    go_ret
    refine ⟨rfl, ?_⟩
    have h15 := HDI.out
    obtain ⟨z0, x, hzx⟩ : ∃ z0 x, z = z0 ++ [x] := by
      rcases List.eq_nil_or_concat z with h | ⟨z0, x, h⟩
      · rw [h] at hzl; simp at hzl
      · exact ⟨z0, x, by rw [h, List.concat_eq_append]⟩
    subst hzx
    have hz0 : z0.length = n := by simp at hzl; exact hzl
    rw [fsC_pop (.slice A5 xs5.length c5) z0 s.room x n hz0 h64, rowsOf_push] at h15
    have h16 := SB.sepPop (h15.pick4 [2, 0, 1])
    have h17 := h16.pick4 [2, 3, 1]
    have hzm : s.fr.dropLast = z0.map Prod.fst := by rw [← show List.map Prod.fst (z0 ++ [x]) = s.fr from hz, List.map_append]; simp
    have hkk := HK.out
    rw [HXL.out, HX5.out]
    exact SB.close_ (s := { s with v := xs5, fr := s.fr.dropLast }) hzm.symm ⟨hkk.room0, hkk.room, by have := hkk.len; simp; omega, fun f hf => hkk.base f (List.dropLast_subset _ hf)⟩ h17
  exact rg_nil
end Go.Proofs.Ytbbgkelcdooabaa.G
