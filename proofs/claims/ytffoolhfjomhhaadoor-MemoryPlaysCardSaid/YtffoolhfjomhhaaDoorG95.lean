/- MemoryPlays: whatever is loaded, stored, grown and laid. -/
import Derived.Deep.DeepMust
import Derived.Test.YtffoolhfjomhhaaDoorG1
import Derived.Test.YtffoolhfjomhhaaDoorRefE
namespace Go.Proofs.YtffoolhfjomhhaaDoor.G
open Go.RowKit Go.Proofs.YtffoolhfjomhhaaDoorW.PrintWords Go.Proofs.YtffoolhfjomhhaaDoorW.PrintLast Go.Proofs.YtffoolhfjomhhaaDoorW.PrintMore
set_option linter.unusedVariables false
set_option linter.unusedSimpArgs false
theorem wrap64_idm {x : Int} (h1 : -9223372036854775808 ≤ x) (h2 : x < 9223372036854775808) : wrap64 x = x := by
  unfold wrap64
  omega
instance (x : Int) : Decidable (okI x) := by unfold okI; infer_instance
def smallB (l : List S57) : Bool := decide (l.length ≤ 60) && l.all (fun x => decide (x.f7.length ≤ 300))
theorem rd57 {l : List S57} {t : Nat} (h : t < l.length) : rd_T57 l (t : Int) = l[t] := by
  unfold rd_T57
  rw [Int.toNat_natCast, List.getD_eq_getElem?_getD, List.getElem?_eq_getElem h]
  rfl
theorem small_l0 (l : List S57) (hl : l.length ≤ 1000000000) : ∀ (k i : Nat), i ≤ l.length → l.length < i + k → avocetlaw13_small.l0 k l i = some ((l.drop i).all (fun x => decide (x.f7.length ≤ 300)))
  | 0, i, h1, h => by omega
  | k + 1, i, h1, h => by
    unfold avocetlaw13_small.l0
    by_cases hi : (i : Int) < (l.length : Int)
    · have hil : i < l.length := by omega
      rw [if_pos hi, if_pos (by omega), rd57 hil, ← List.getElem_cons_drop hil, List.all_cons]
      by_cases h3 : ((l[i].f7.length : Nat) : Int) > 300
      · rw [if_pos h3, decide_eq_false (by omega)]
        rfl
      · rw [if_neg h3, wrap64_idm (by omega) (by omega), decide_eq_true (by omega), Bool.true_and]
        exact small_l0 l hl k (i + 1) (by omega) (by omega)
    · rw [if_neg hi, List.drop_of_length_le (by omega)]
      rfl
theorem small_ex (l : List S57) : ∃ k, avocetlaw13_small.f k l = some (smallB l) := by
  unfold smallB
  by_cases h : (l.length : Int) > 60
  · exact ⟨0, by unfold avocetlaw13_small.f; rw [if_pos h, decide_eq_false (by omega)]; rfl⟩
  · refine ⟨l.length + 1, ?_⟩
    unfold avocetlaw13_small.f
    rw [if_neg h, decide_eq_true (by omega), Bool.true_and]
    exact small_l0 l (by omega) _ 0 (by omega) (by omega)
theorem smallB_iff {l : List S57} (h : smallB l = true) : l.length ≤ 60 ∧ ∀ x ∈ l, x.f7.length ≤ 300 := by
  unfold smallB at h
  simp only [Bool.and_eq_true, decide_eq_true_eq, List.all_eq_true] at h
  exact h
def okA (x : S57) : Prop := okI x.f1 ∧ okU x.f2 ∧ okU x.f3 ∧ okU x.f4 ∧ okI x.f5 ∧ okI x.f6 ∧ (∀ c ∈ x.f7, 0 ≤ c ∧ c < 256)
instance (x : S57) : Decidable (okA x) := by unfold okA okI okU; infer_instance
theorem frSmall {w0 w : World} {L : List As} (HS : SB w0 w L) (A : Option Addr) (c : Nat) (l : List S57) (hC : Kd.C k57 w A l.length l) (hc : l.length ≤ c) :
    Calls Tryd.prog 22 #[.slice A l.length c] w fun e w' => e = .returned (.bool (smallB l)) ∧ SB w0 w' L := by
  obtain ⟨k, hk⟩ := small_ex l
  refine (avocetlaw13_small.calls k A c l _ w hC hc hk).mono ?_
  rintro e w' ⟨rfl, hb⟩
  exact ⟨rfl, HS.below (by first | exact hb | exact drawn_below hb)⟩
theorem mBytes_whole {m : Mem} {pg : Nat} (h : Paged m pg) : mBytes m.b 0 (65536 * (pg : Int)) = m.b := by
  unfold mBytes
  have hl := h.len
  rw [if_pos ⟨by omega, by omega, by omega, by omega⟩]
  unfold seg
  have e1 : ((65536 * (pg : Int)).toNat) = m.b.length := by omega
  rw [e1]
  simp
theorem paged_div {m : Mem} {pg : Nat} (h : Paged m pg) : (m.b.length : Int) / 65536 = (pg : Int) := by
  have := h.len
  omega
theorem paged0 {lo : Nat} {hi : Int} {has : Bool} (h : mBad lo hi has = 0) : Paged ⟨List.replicate (65536 * lo) 0, lo, hi, has⟩ lo := by
  unfold mBad at h
  split at h
  · cases h
  · rename_i h1
    split at h
    · cases h
    · rename_i h2
      refine ⟨fun c hc => by rw [(List.mem_replicate.1 hc).2]; decide, List.length_replicate, by omega, fun hh => ?_⟩
      have hh : has = true := hh
      refine ⟨Classical.byContradiction fun hx => h1 (.inr (.inl ⟨hh, .inl ?_⟩)), Classical.byContradiction fun hx => h1 (.inr (.inl ⟨hh, .inr ?_⟩))⟩
      · have hx : ¬ 0 ≤ hi := hx
        omega
      · have hx : ¬ hi ≤ 65536 := hx
        omega
set_option maxRecDepth 100000 in
set_option maxHeartbeats 8000000 in
theorem memoryPlays (lo hi : Int) (has : Bool) (l : List S57) (A : Option Addr) (c : Nat) (w : World) (hG : Globs w) (hC : Kd.C k57 w A l.length l) (hc : l.length ≤ c) (hlo : okI lo) (hhi : okI hi) (hok : ∀ x ∈ l, okA x) :
    Calls Tryd.prog 8 #[.agg #[.int .i64 lo, .int .i64 hi, .bool has], .slice A l.length c] w fun e w' => e = .returned (.bool true) ∧ Below w.heap.size w w' := by
  have HGL := Aside0.mk hG
  have HC := Aside0.mk hC
  have HOK := Aside0.mk hok
  have HLO := Aside0.mk hlo
  have HHI := Aside0.mk hhi
  have HST := Aside0.mk ((SB.start w).box #[.int .i64 lo, .int .i64 hi, .bool has] 29)
  obtain ⟨b, hb⟩ : ∃ b, w.heap.size = b := ⟨_, rfl⟩
  rw [hb] at HST
  obtain ⟨sm, hsm⟩ : ∃ sm, smallB l = sm := ⟨_, rfl⟩
  have HSM := Aside0.mk hsm
  clear hC hok hsm hlo hhi hG
  cases sm with
  | false =>
    go_enter Tryd.func8, Tryd.ntmps8
    go_wp2_with (first
      | (go_at_call 9; (with_reducible refine (awake _ (HGL.out.below HST.out.bel)).mono ?_); rintro e w1 ⟨rfl, hbl⟩; have HB := Aside0.mk (HST.out.below hbl); clear hbl)
      | (go_at_call 22; (with_reducible refine (frSmall HB.out A c l (Kd.C_below HC.out HB.out.bel) hc).mono ?_); rintro e w2 ⟨rfl, hs⟩; rw [HSM.out]; have HB2 := Aside0.mk hs; clear hs))
    go_ret
    exact ⟨rfl, HB2.out.bel⟩
  | true =>
  have hll := (smallB_iff HSM.out).1
  by_cases hbad : mBad lo hi has = 0
  · skip
    obtain ⟨lo, rfl⟩ := Int.eq_ofNat_of_zero_le (show 0 ≤ lo from Classical.byContradiction fun hh => by unfold mBad at hbad; rw [if_pos (.inl (by omega))] at hbad; cases hbad)
    have HBAD := Aside0.mk hbad
    clear hbad
    go_enter Tryd.func8, Tryd.ntmps8
    go_wp2_with (first
      | (go_at_call 9; (with_reducible refine (awake _ (HGL.out.below HST.out.bel)).mono ?_); rintro e w1 ⟨rfl, hbl⟩; have HB := Aside0.mk (HST.out.below hbl); clear hbl)
      | (go_at_call 22; (with_reducible refine (frSmall HB.out A c l (Kd.C_below HC.out HB.out.bel) hc).mono ?_); rintro e' w2 ⟨rfl, hs⟩; rw [HSM.out]; have hb1 := hs.blk; have y0 := blk_cell hb1 0; have y1 := blk_cell hb1 1; have y2 := blk_cell hb1 2; have HB2 := Aside0.mk hs; clear hs hb1)
      | (go_at_call 10; go_must ((with_reducible refine (memNewOk HB2.out lo hi has HBAD.out).mono ?_); rintro e' w3 ⟨pt, rfl, hs⟩; have hb1 := (hs.pick2 [1]).blk; have y0 := blk_cell hb1 0; have y1 := blk_cell hb1 1; have y2 := blk_cell hb1 2; have HB3 := Aside0.mk hs; clear hs hb1))
      | (go_at_call 23; go_must ((with_reducible refine (refNewOk HB3.out lo hi has HBAD.out).mono ?_); rintro e' w4 ⟨qt, rfl, hs⟩; have HB6 := Aside0.mk (show SB w _ [MO pt ⟨List.replicate (65536 * lo) 0, lo, hi, has⟩, RO qt ⟨List.replicate (65536 * lo) 0, lo, hi, has⟩] from hs.pick3 [1, 0]); clear hs)))
    go_loopw [10] (fun v10 wr => ∃ (i : Nat) (m : Mem) (pg : Nat), v10 = .int .i64 i ∧ i ≤ l.length ∧ Aside0 (Paged m pg) ∧ Aside0 (SB w wr [MO pt m, RO qt m])) (fun v10 _ => l.length - (intOf v10).toNat)
    case atStart => exact ⟨0, ⟨List.replicate (65536 * lo) 0, lo, hi, has⟩, lo, rfl, Nat.zero_le _, ⟨paged0 HBAD.out⟩, HB6⟩
    case round =>
      obtain ⟨i, m, pg, rfl, hi, HP, HR⟩ := hrel
      by_cases hlt : i < l.length
      · skip
        have e1 : decide ((i : Int) < (l.length : Int)) = true := decide_eq_true (by omega)
        have e2 : decide (i < l.length) = true := decide_eq_true hlt
        obtain ⟨x, hx⟩ : ∃ x, l[i] = x := ⟨_, rfl⟩
        have hxm : x ∈ l := by rw [← hx]; exact List.getElem_mem _
        have hxo := HOK.out x hxm
        have HX := Aside0.mk (show OkAct x from ⟨hxo.1, hxo.2.1, hxo.2.2.1, hxo.2.2.2.1, hxo.2.2.2.2.1, hxo.2.2.2.2.2.1, hxo.2.2.2.2.2.2, (smallB_iff HSM.out).2 x hxm⟩)
        have hat0 := at_T57 HC.out (i : Int) (by omega) (by omega)
        rw [rd57 hlt, hx, Int.toNat_natCast] at hat0
        obtain ⟨ad, A7, c7, hAd, q0, q1, q2, q3, q4, q5, q6, q7, l7, g7⟩ := hat0
        have hbw := HR.out.bel
        have q0 := pw_cell_below hbw q0
        have q1 := pw_cell_below hbw q1
        have q2 := pw_cell_below hbw q2
        have q3 := pw_cell_below hbw q3
        have q4 := pw_cell_below hbw q4
        have q5 := pw_cell_below hbw q5
        have q6 := pw_cell_below hbw q6
        have q7 := pw_cell_below hbw q7
        have HG := Aside0.mk g7
        have HAD := Aside0.mk hAd
        subst hAd
        obtain ⟨pg', hP'⟩ := mDo_paged HP.out HX.out
        have HP' := Aside0.mk hP'.1
        obtain ⟨m', hm'⟩ : ∃ m', mDo m pg x = m' := ⟨_, rfl⟩
        have HM' := Aside0.mk hm'
        rw [hm'] at HP'
        clear hxm hx g7 hbw hxo hP' hm'
        go_wp2_with (first
          | (go_at_call 24; go_must ((with_reducible refine (bothMem HR.out HGL.out HP.out x HX.out A7 c7 HG.out).mono ?_); rintro e' w7 ⟨rfl, hs⟩; have HR7 := Aside0.mk hs; rw [HM'.out] at HR7; clear hs))
          | (go_at_call 19; go_must ((with_reducible refine (memPagesH HR7.out HP'.out.good (paged_div HP'.out)).mono ?_); rintro e' w8 ⟨rfl, hs⟩; have HR8 := Aside0.mk (hs.pick2 [1, 0]); clear hs))
          | (go_at_call 25; go_must ((with_reducible refine (refPagesK HR8.out HP'.out.good (paged_div HP'.out)).mono ?_); rintro e' w9 ⟨rfl, hs⟩; have HR9 := Aside0.mk (hs.pick2 [1, 0]); clear hs))
          | (go_at_call 26; go_must ((with_reducible refine (memLimits HR9.out HP'.out).mono ?_); rintro e' w10 ⟨rfl, hs⟩; have HR10 := Aside0.mk (hs.pick2 [1, 0]); clear hs))
          | (go_at_call 27; go_must ((with_reducible refine (refLimits HR10.out HP'.out).mono ?_); rintro e' w11 ⟨rfl, hs⟩; have HR11 := Aside0.mk (hs.pick2 [1, 0]); clear hs)))
        exact ⟨⟨i + 1, m', pg', by simp, by omega, HP', HR11⟩, by simp [intOf]; omega⟩
      · have e1 : decide ((i : Int) < (l.length : Int)) = false := decide_eq_false (by omega)
        have e2 : decide (i < l.length) = false := decide_eq_false hlt
        have hmu : IntKind.i64.wrap (65536 * (pg : Int)) = 65536 * (pg : Int) := by have := HP.out.le4; rw [IntKind.wrap_i64]; omega
        have hwrt : True := trivial
        go_wp2
        refine rg_startL (n := 23) (S := fun w' => True) (bm 23 0) (by kernel_rfl) rfl (by kernel_rfl) (trivial) (fun wd hwd hHeld => ?_)
        refine rg_take (i := 0) (N := some 64) (v := ?_) (a' := ?_) (bm 23 1) rfl rfl (by kernel_rfl) (fun _ _ _ h => h) hHeld (Or.inl ⟨by rfl, ?_⟩) ?_ ?_
        rotate_left
        · intro w' hw'
          go_simp
          with_reducible rfl
        rotate_left
        · simp only [Act.put, List.setIfInBounds_toArray, List.set_cons_zero, List.set_cons_succ]
          rfl
        refine rg_take (i := 1) (N := some 65) (v := ?_) (a' := ?_) (bm 23 3) rfl rfl (by kernel_rfl) (fun _ _ _ h => h) hHeld (Or.inl ⟨by rfl, ?_⟩) ?_ ?_
        rotate_left
        · intro w' hw'
          go_simp
          with_reducible rfl
        rotate_left
        · simp only [Act.put, List.setIfInBounds_toArray, List.set_cons_zero, List.set_cons_succ]
          rfl
        refine rg_take (i := 2) (N := some 66) (v := ?_) (a' := ?_) (bm 23 7) rfl rfl (by kernel_rfl) (fun _ _ _ h => h) hHeld (Or.inl ⟨by rfl, ?_⟩) ?_ ?_
        rotate_left
        · intro w' hw'
          go_simp
          with_reducible rfl
        rotate_left
        · simp only [Act.put, List.setIfInBounds_toArray, List.set_cons_zero, List.set_cons_succ]
          rfl
        refine rg_take (i := 4) (N := some 68) (v := ?_) (a' := ?_) (bm 23 23) rfl rfl (by kernel_rfl) (fun _ _ _ h => h) hHeld (Or.inl ⟨by rfl, ?_⟩) ?_ ?_
        rotate_left
        · intro w' hw'
          go_simp
          with_reducible rfl
        rotate_left
        · simp only [Act.put, List.setIfInBounds_toArray, List.set_cons_zero, List.set_cons_succ]
          rfl
        refine rg_ready [3] (by kernel_rfl) (by simp) ?_
        refine rg_one (i := 3) (N := some 67) (bm 23 31) rfl rfl (by kernel_rfl) (fun K hK => ?_) rg_nil
        have HD := Aside0.mk (hwd.out ▸ HR.out.drew)
        go_simp
        go_at_call 18
        with_reducible refine (memSumH HD.out HP.out.good).mono ?_
        rintro e wx3r15 ⟨rfl, hs⟩
        have HD1 := Aside0.mk (hs.pick2 [1, 0])
        have hnew := True.intro
        clear hs
        go_wp2_with fail
        refine hK.out _ _ hnew ?_
        clear hK K
        refine rg_norm (a' := ?_) ?_ ?_
        rotate_left
        · simp only [Act.put, List.setIfInBounds_toArray, List.set_cons_zero, List.set_cons_succ]
          rfl
        clear hHeld
        have hHeld := hnew
        clear hnew
        refine rg_ready [5] (by kernel_rfl) (by simp) ?_
        refine rg_one (i := 5) (N := some 69) (bm 23 63) rfl rfl (by kernel_rfl) (fun K hK => ?_) rg_nil
        go_simp
        go_at_call 28
        with_reducible refine (refSum HD1.out HP.out.good).mono ?_
        rintro e wx3x5r15 ⟨rfl, hs⟩
        obtain ⟨Ab, cb, hcb, h1⟩ := SB.obOpen hs
        have HD2 := Aside0.mk (show SB w _ [MO pt m, Box qt #[.slice Ab m.b.length cb, .int .i64 m.lo, .int .i64 m.hi, .bool m.has] 60, Row (Kd.int .u8) 5 (.slice Ab m.b.length cb) m.b] from h1.pick3 [2, 0, 1])
        have hnew : True ∧ (wx3x5r15.heap[qt]? = some (.cells #[.slice Ab m.b.length cb, .int .i64 m.lo, .int .i64 m.hi, .bool m.has] 60 (0, 0)) ∧ (convert 39 9 (.slice Ab m.b.length cb)).run Tryd.prog wx3x5r15 = .ok (.string (strOfNums m.b)) wx3x5r15) := ⟨trivial, HD2.out.pick3 [1] |>.blk, HD2.out.pick3 [2] |>.str⟩
        have himp : ∀ W : World, (True ∧ (W.heap[qt]? = some (.cells #[.slice Ab m.b.length cb, .int .i64 m.lo, .int .i64 m.hi, .bool m.has] 60 (0, 0)) ∧ (convert 39 9 (.slice Ab m.b.length cb)).run Tryd.prog W = .ok (.string (strOfNums m.b)) W)) → True := fun W h => trivial
        clear hs h1
        go_wp2_with fail
        refine hK.out _ _ (himp _ hnew) ?_
        clear hK K
        refine rg_norm (a' := ?_) ?_ ?_
        rotate_left
        · simp only [Act.put, List.setIfInBounds_toArray, List.set_cons_zero, List.set_cons_succ]
          rfl
        refine rg_imp himp ?_
        clear himp
        clear hHeld
        have hHeld := hnew
        clear hnew
        refine rg_take (i := 6) (N := some 70) (v := ?_) (a' := ?_) (bm 23 127) rfl rfl (by kernel_rfl) (fun _ _ _ h => h) hHeld (Or.inl ⟨by rfl, ?_⟩) ?_ ?_
        rotate_left
        · intro w' hw'
          go_simp
          with_reducible rfl
        rotate_left
        · simp only [Act.put, List.setIfInBounds_toArray, List.set_cons_zero, List.set_cons_succ]
          rfl
        refine rg_take (i := 7) (N := some 71) (v := ?_) (a' := ?_) (bm 23 255) rfl rfl (by kernel_rfl) (fun _ _ _ h => h) hHeld (Or.inl ⟨by rfl, ?_⟩) ?_ ?_
        rotate_left
        · intro w' hw'
          go_simp
          with_reducible rfl
        rotate_left
        · simp only [Act.put, List.setIfInBounds_toArray, List.set_cons_zero, List.set_cons_succ]
          rfl
        refine rg_take (i := 8) (N := some 72) (v := ?_) (a' := ?_) (bm 23 511) rfl rfl (by kernel_rfl) (fun _ _ _ h => h) hHeld (Or.inl ⟨by rfl, ?_⟩) ?_ ?_
        rotate_left
        · intro w' hw'
          go_simp
          with_reducible rfl
        rotate_left
        · simp only [Act.put, List.setIfInBounds_toArray, List.set_cons_zero, List.set_cons_succ]
          rfl
        refine rg_take (i := 9) (N := some 73) (v := ?_) (a' := ?_) (bm 23 1023) rfl rfl (by kernel_rfl) (fun _ _ _ h => h) hHeld (Or.inl ⟨by rfl, ?_⟩) ?_ ?_
        rotate_left
        · intro w' hw'
          go_simp
          with_reducible rfl
        rotate_left
        · simp only [Act.put, List.setIfInBounds_toArray, List.set_cons_zero, List.set_cons_succ]
          rfl
        refine rg_take (i := 10) (N := some 74) (v := ?_) (a' := ?_) (bm 23 2047) rfl rfl (by kernel_rfl) (fun _ _ _ h => h) hHeld (Or.inl ⟨by rfl, ?_⟩) ?_ ?_
        rotate_left
        · intro w' hw'
          go_simp
          with_reducible rfl
        rotate_left
        · simp only [Act.put, List.setIfInBounds_toArray, List.set_cons_zero, List.set_cons_succ]
          rfl
        refine rg_take (i := 15) (N := some 79) (v := ?_) (a' := ?_) (bm 23 34815) rfl rfl (by kernel_rfl) (fun _ _ _ h => h) hHeld (Or.inl ⟨by rfl, ?_⟩) ?_ ?_
        rotate_left
        · intro w' hw'
          go_simp
          with_reducible rfl
        rotate_left
        · simp only [Act.put, List.setIfInBounds_toArray, List.set_cons_zero, List.set_cons_succ]
          rfl
        refine rg_take (i := 16) (N := some 80) (v := ?_) (a' := ?_) (bm 23 100351) rfl rfl (by kernel_rfl) (fun _ _ _ h => h) hHeld (Or.inl ⟨by rfl, ?_⟩) ?_ ?_
        rotate_left
        · intro w' hw'
          go_simp
          with_reducible rfl
        rotate_left
        · simp only [Act.put, List.setIfInBounds_toArray, List.set_cons_zero, List.set_cons_succ]
          rfl
        refine rg_take (i := 17) (N := some 81) (v := ?_) (a' := ?_) (bm 23 231423) rfl rfl (by kernel_rfl) (fun _ _ _ h => h) hHeld (Or.inl ⟨by rfl, ?_⟩) ?_ ?_
        rotate_left
        · intro w' hw'
          go_simp
          with_reducible rfl
        rotate_left
        · simp only [Act.put, List.setIfInBounds_toArray, List.set_cons_zero, List.set_cons_succ]
          rfl
        refine rg_take (i := 18) (N := some 82) (v := ?_) (a' := ?_) (bm 23 493567) rfl rfl (by kernel_rfl) (fun _ _ _ h => h) hHeld (Or.inl ⟨by rfl, ?_⟩) ?_ ?_
        rotate_left
        · intro w' hw'
          have s0 := blk_cell hw'.2.1 0
          go_simp
          with_reducible rfl
        rotate_left
        · simp only [Act.put, List.setIfInBounds_toArray, List.set_cons_zero, List.set_cons_succ]
          rfl
        refine rg_take (i := 19) (N := some 83) (v := ?_) (a' := ?_) (bm 23 1017855) rfl rfl (by kernel_rfl) (fun _ _ _ h => h) hHeld (Or.inl ⟨by rfl, ?_⟩) ?_ ?_
        rotate_left
        · intro w' hw'
          have hst := hw'.2.2
          go_simp
          with_reducible rfl
        rotate_left
        · simp only [Act.put, List.setIfInBounds_toArray, List.set_cons_zero, List.set_cons_succ]
          rfl
        refine rg_ready [11] (by kernel_rfl) (by simp) ?_
        refine rg_one (i := 11) (N := some 75) (bm 23 1019903) rfl rfl (by kernel_rfl) (fun K hK => ?_) rg_nil
        go_simp
        go_at_call 19
        with_reducible refine (memPagesH HD2.out HP.out.good (paged_div HP.out)).mono ?_
        rintro e wx3x5x11r15 ⟨rfl, hs⟩
        have HD3 := Aside0.mk hs
        have hnew : True ∧ (wx3x5x11r15.heap[qt]? = some (.cells #[.slice Ab m.b.length cb, .int .i64 m.lo, .int .i64 m.hi, .bool m.has] 60 (0, 0)) ∧ (convert 39 9 (.slice Ab m.b.length cb)).run Tryd.prog wx3x5x11r15 = .ok (.string (strOfNums m.b)) wx3x5x11r15) := ⟨trivial, hs.pick3 [1] |>.blk, hs.pick3 [2] |>.str⟩
        clear hs
        go_wp2_with fail
        refine hK.out _ _ hnew ?_
        clear hK K
        refine rg_norm (a' := ?_) ?_ ?_
        rotate_left
        · simp only [Act.put, List.setIfInBounds_toArray, List.set_cons_zero, List.set_cons_succ]
          rfl
        clear hHeld
        have hHeld := hnew
        clear hnew
        refine rg_take (i := 12) (N := some 76) (v := ?_) (a' := ?_) (bm 23 1023999) rfl rfl (by kernel_rfl) (fun _ _ _ h => h) hHeld (Or.inl ⟨by rfl, ?_⟩) ?_ ?_
        rotate_left
        · intro w' hw'
          go_simp
          with_reducible rfl
        rotate_left
        · simp only [Act.put, List.setIfInBounds_toArray, List.set_cons_zero, List.set_cons_succ]
          rfl
        refine rg_ready [13] (by kernel_rfl) (by simp) ?_
        refine rg_one (i := 13) (N := some 77) (bm 23 1032191) rfl rfl (by kernel_rfl) (fun K hK => ?_) rg_nil
        go_simp
        go_at_call 16
        with_reducible refine (memBytesK HD3.out HP.out.good (by unfold okI; omega) (by have := HP.out.le4; unfold okI; omega) (mBytes_whole HP.out)).mono ?_
        rintro e wx3x5x11x13r15 ⟨v13, rfl, hs⟩
        have HD4 := Aside0.mk (hs.pick4 [1])
        have hnew : (True ∧ (wx3x5x11x13r15.heap[qt]? = some (.cells #[.slice Ab m.b.length cb, .int .i64 m.lo, .int .i64 m.hi, .bool m.has] 60 (0, 0)) ∧ (convert 39 9 (.slice Ab m.b.length cb)).run Tryd.prog wx3x5x11x13r15 = .ok (.string (strOfNums m.b)) wx3x5x11x13r15)) ∧ (convert 39 9 v13).run Tryd.prog wx3x5x11x13r15 = .ok (.string (strOfNums m.b)) wx3x5x11x13r15 := ⟨⟨trivial, hs.pick4 [2] |>.blk, hs.pick4 [3] |>.str⟩, hs.str⟩
        have himp : ∀ W : World, ((True ∧ (W.heap[qt]? = some (.cells #[.slice Ab m.b.length cb, .int .i64 m.lo, .int .i64 m.hi, .bool m.has] 60 (0, 0)) ∧ (convert 39 9 (.slice Ab m.b.length cb)).run Tryd.prog W = .ok (.string (strOfNums m.b)) W)) ∧ (convert 39 9 v13).run Tryd.prog W = .ok (.string (strOfNums m.b)) W) → (True ∧ (W.heap[qt]? = some (.cells #[.slice Ab m.b.length cb, .int .i64 m.lo, .int .i64 m.hi, .bool m.has] 60 (0, 0)) ∧ (convert 39 9 (.slice Ab m.b.length cb)).run Tryd.prog W = .ok (.string (strOfNums m.b)) W)) := fun W h => h.1
        clear hs
        go_wp2_with fail
        refine hK.out _ _ (himp _ hnew) ?_
        clear hK K
        refine rg_norm (a' := ?_) ?_ ?_
        rotate_left
        · simp only [Act.put, List.setIfInBounds_toArray, List.set_cons_zero, List.set_cons_succ]
          rfl
        refine rg_imp himp ?_
        clear himp
        clear hHeld
        have hHeld := hnew
        clear hnew
        refine rg_take (i := 14) (N := some 78) (v := ?_) (a' := ?_) (bm 23 1048575) rfl rfl (by kernel_rfl) (fun _ _ _ h => h) hHeld (Or.inl ⟨by rfl, ?_⟩) ?_ ?_
        rotate_left
        · intro w' hw'
          have hst := hw'.2
          go_simp
          with_reducible rfl
        rotate_left
        · simp only [Act.put, List.setIfInBounds_toArray, List.set_cons_zero, List.set_cons_succ]
          rfl
        refine rg_take (i := 20) (N := some 84) (v := ?_) (a' := ?_) (bm 23 2097151) rfl rfl (by kernel_rfl) (fun _ _ _ h => h) hHeld (Or.inl ⟨by rfl, ?_⟩) ?_ ?_
        rotate_left
        · intro w' hw'
          go_simp
          with_reducible rfl
        rotate_left
        · simp only [Act.put, List.setIfInBounds_toArray, List.set_cons_zero, List.set_cons_succ]
          rfl
        refine rg_take (i := 21) (N := some 85) (v := ?_) (a' := ?_) (bm 23 4194303) rfl rfl (by kernel_rfl) (fun _ _ _ h => h) hHeld (Or.inl ⟨by rfl, ?_⟩) ?_ ?_
        rotate_left
        · intro w' hw'
          go_simp
          with_reducible rfl
        rotate_left
        · simp only [Act.put, List.setIfInBounds_toArray, List.set_cons_zero, List.set_cons_succ]
          rfl
        refine rg_take (i := 22) (N := some 4) (v := ?_) (a' := ?_) (bm 23 8388607) rfl rfl (by kernel_rfl) (fun _ _ _ h => h) hHeld (Or.inl ⟨by rfl, ?_⟩) ?_ ?_
        rotate_left
        · intro w' hw'
          go_simp
          with_reducible rfl
        rotate_left
        · simp only [Act.put, List.setIfInBounds_toArray, List.set_cons_zero, List.set_cons_succ]
          rfl
        refine rg_done (by kernel_rfl) ?_
        go_wp2
        go_ret
        exact ⟨by simp, HD4.out.bel⟩
  · obtain ⟨e, he⟩ : ∃ e, mBad lo hi has = e := ⟨_, rfl⟩
    have HBN := Aside0.mk (fun W => memNewNo lo hi has W HLO.out HHI.out hbad)
    have HBX := Aside0.mk (fun W => refNewNo lo hi has W HLO.out HHI.out hbad)
    rw [he] at hbad HBN HBX
    have hbe : (e == 0) = false := beq_eq_false_iff_ne.2 hbad
    clear he hbad
    go_enter Tryd.func8, Tryd.ntmps8
    go_wp2_with (first
      | (go_at_call 9; (with_reducible refine (awake _ (HGL.out.below HST.out.bel)).mono ?_); rintro e w1 ⟨rfl, hbl⟩; have HB := Aside0.mk (HST.out.below hbl); clear hbl)
      | (go_at_call 22; (with_reducible refine (frSmall HB.out A c l (Kd.C_below HC.out HB.out.bel) hc).mono ?_); rintro e' w2 ⟨rfl, hs⟩; rw [HSM.out]; have hb1 := hs.blk; have y0 := blk_cell hb1 0; have y1 := blk_cell hb1 1; have y2 := blk_cell hb1 2; have HB2 := Aside0.mk hs; clear hs hb1)
      | (go_at_call 10; go_must ((with_reducible refine (HBN.out _).mono ?_); rintro e' w3 ⟨rfl, hbl⟩; have hs := HB2.out.below hbl; have hb1 := hs.blk; have y0 := blk_cell hb1 0; have y1 := blk_cell hb1 1; have y2 := blk_cell hb1 2; have HB3 := Aside0.mk hs; clear hs hb1 hbl))
      | (go_at_call 23; go_must ((with_reducible refine (HBX.out _).mono ?_); rintro e' w4 ⟨rfl, hbl⟩; have HB4 := Aside0.mk (HB3.out.below hbl); clear hbl)))
    go_ret
    exact ⟨by simp, HB4.out.bel⟩
def avocetlaw13_MemoryPlays.f (a0_0 : Int) (a0_1 : Int) (a0_2 : Bool) (l1 : List (S57)) : Option (Bool) := if (okI a0_0 ∧ okI a0_1) ∧ (∀ x ∈ l1, okA x) then some true else none
theorem avocetlaw13_MemoryPlays.calls (a0_0 : Int) (a0_1 : Int) (a0_2 : Bool) (A1 : Option Addr) (c1 : Nat) (l1 : List (S57)) (r : Bool) (w : World) (hG : Globs w) (hr1 : Kd.C k57 w A1 l1.length l1) (hc1 : l1.length ≤ c1) (hr_ : r = true) (h : avocetlaw13_MemoryPlays.f a0_0 a0_1 a0_2 l1 = some r) :
    Calls Tryd.prog 8 #[.agg #[.int .i64 a0_0, .int .i64 a0_1, .bool a0_2], .slice A1 l1.length c1] w fun e w' => e = .returned (.bool r) ∧ Below w.heap.size w w' := by
  subst hr_
  by_cases hn : (okI a0_0 ∧ okI a0_1) ∧ (∀ x ∈ l1, okA x)
  · exact memoryPlays a0_0 a0_1 a0_2 l1 A1 c1 w hG hr1 hc1 hn.1.1 hn.1.2 hn.2
  · unfold avocetlaw13_MemoryPlays.f at h
    rw [if_neg hn] at h
    simp at h
end Go.Proofs.YtffoolhfjomhhaaDoor.G
