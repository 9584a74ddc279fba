/- Package host: Left, Log. -/
import Derived.Deep.DeepMust
import Derived.Test.YtbjglicdamenhaaHstG
namespace Go.Proofs.Ytbjglicdamenhaa.G
open Go.RowKit Go.Proofs.YtbjglicdamenhaaW.PrintWords Go.Proofs.YtbjglicdamenhaaW.PrintLast Go.Proofs.YtbjglicdamenhaaW.PrintMore
set_option linter.unusedVariables false
set_option linter.unusedSimpArgs false
theorem hstLeft {w0 w : World} {L : List As} {p : Nat} {rs : List S86} {lg : List S80} {n : Nat} (hn : rs.length = n) (hS : SB w0 w (HO p rs lg :: L)) :
    Calls Try.prog 16 #[.pointer (some ⟨p, 0, none⟩)] w fun e w' => e = .returned (.int .i64 n) ∧ SB w0 w' (HO p rs lg :: L) := by
  subst hn
  obtain ⟨A, c, z, vl, hc, h1⟩ := hS.hoOpen
  have q0 : _ = some (Value.slice A rs.length c) := blk_cell h1.blk 0
  have HS := Aside0.mk hS
  clear hS h1
  go_enter Try.func16, Try.ntmps16
  go_wp2
  go_ret
  exact ⟨rfl, HS.out⟩
theorem hstLeftNil (w : World) : Calls Try.prog 16 #[.pointer none] w fun e w' => e = .returned (.int .i64 0) ∧ Below w.heap.size w w' := by
  go_enter Try.func16, Try.ntmps16
  go_wp2
  go_ret
  exact ⟨rfl, Below.refl _ _⟩
theorem hstLogNil (w : World) : Calls Try.prog 15 #[.pointer none] w fun e w' => e = .returned (.slice none 0 0) ∧ Below w.heap.size w w' := by
  go_enter Try.func15, Try.ntmps15
  go_wp2
  go_ret
  exact ⟨rfl, Below.refl _ _⟩
set_option maxHeartbeats 4000000 in
set_option maxRecDepth 100000 in
theorem hstLog_ (w : World) (p : Nat) (v0 : Value) (A : Option Addr) (c : Nat) (l : List S80) (hp0 : w.cell? ⟨p, 0, none⟩ = some v0) (hp : w.cell? ⟨p, 1, none⟩ = some (.slice A l.length c)) (hC : Kd.C k80 w A l.length l) (hc : l.length ≤ c) (hl : l.length ≤ 1000000) (hM : ∀ x ∈ l, x.f1.length ≤ 1000000 ∧ x.f3.length ≤ 1000000) :
    Calls Try.prog 15 #[.pointer (some ⟨p, 0, none⟩)] w fun e w' => ∃ v, e = .returned v ∧ SB w w' [CLs v l] := by
  obtain ⟨z, hz, hzl, hK⟩ := raw_of hC
  obtain ⟨n, hn⟩ : ∃ n, l.length = n := ⟨_, rfl⟩
  rw [hn] at hz hzl hc hl hp
  have HK := Aside0.mk hK
  have HN := Aside0.mk hn
  have HZL := Aside0.mk hzl
  have HM := Aside0.mk hM
  have HCL := Aside0.mk (cloneC (SB.start w) A c z (by rw [hzl]; exact hz) (by omega) (by omega))
  rw [hzl] at HCL
  clear hz hK hM hC hn hzl
  go_enter Try.func15, Try.ntmps15
  go_wp2_with (go_at_call 36; go_must ((with_reducible refine (HCL.out).mono ?_); rintro e w1 ⟨v3, rfl, hs, hb⟩; obtain ⟨A3, c3, rfl, h3, hh3⟩ := hs.reads; rw [HZL.out] at hs; rw [HZL.out]; have HS1 := Aside0.mk hs; clear hs hb hh3))
  rw [HZL.out] at h3
  go_loopw [15] (fun v15 wr => ∃ (i : Nat) (y : List (S80 × Value × Value)), v15 = .int .i64 i ∧ i ≤ n ∧ Aside0 (y.map Prod.fst = l.take i) ∧ Aside0 (SB w wr [Row (Kd.raw 4) 80 (.slice A3 n c3) (y.map c4 ++ z.drop i), Sep (rows2 y)])) (fun v15 _ => n - (intOf v15).toNat)
  case atStart => exact ⟨0, [], rfl, Nat.zero_le _, ⟨by simp⟩, ⟨SB.swap (SB.sep0.2 (by simpa using HS1.out))⟩⟩
  case round =>
    obtain ⟨i, y, rfl, hi, HY, HR⟩ := hrel
    by_cases hlt : i < n
    · have e1 : decide ((i : Int) < (n : Int)) = true := decide_eq_true (by omega)
      have e2 : decide (i < n) = true := decide_eq_true hlt
      have hil : i < l.length := by rw [HN.out]; exact hlt
      have hiz : i < z.length := by rw [HZL.out]; exact hlt
      have hyl : y.length = i := by have := congrArg List.length HY.out; simpa [Nat.min_eq_left (Nat.le_of_lt hil)] using this
      have hKi := HK.out i l[i] z[i] (List.getElem?_eq_getElem hil) (List.getElem?_eq_getElem hiz)
      obtain ⟨x, hx⟩ : ∃ x, l[i] = x := ⟨_, rfl⟩
      have HX := Aside0.mk hx
      have HXL := Aside0.mk (HM.out x (by rw [← hx]; exact List.getElem_mem _))
      rw [hx] at hKi
      obtain ⟨A1, d1, A2, d2, hcz, hd1, hC1, hd2, hC2⟩ := k80_open hKi
      obtain ⟨R, hR⟩ : ∃ R, y.map c4 ++ z.drop i = R := ⟨_, rfl⟩
      have HRI := Aside0.mk (show i < R.length by rw [← hR]; simp; omega)
      have HGI := Aside0.mk (show ∀ h : i < R.length, R[i] = [.int .i64 x.f0, .slice A1 x.f1.length d1, .int .u64 x.f2, .slice A2 x.f3.length d2] by subst hR; intro h; simp [hyl, hcz])
      have HNEW := Aside0.mk (show ∀ u v, R.set i [Value.int .i64 x.f0, u, .int .u64 x.f2, v] = (y ++ [(x, u, v)]).map c4 ++ z.drop (i + 1) by
        intro u v
        subst hR
        rw [List.drop_eq_getElem_cons hiz, set_mid _ _ _ _ _ (by simp [hyl]), List.map_append, List.append_assoc]
        rfl)
      rw [hR] at HR
      obtain ⟨g, hg, hcell, hfz, hset⟩ := HR.out.rawAt i HRI.out
      have q0 := hcell 0 (by decide)
      have q1 := hcell 1 (by decide)
      have q2 := hcell 2 (by decide)
      have q3 := hcell 3 (by decide)
      rw [HGI.out] at q0 q1 q2 q3
      have q0 : wr.cell? ⟨g, i * 4, none⟩ = some (.int .i64 x.f0) := q0
      have q1 : wr.cell? ⟨g, i * 4 + 1, none⟩ = some (.slice A1 x.f1.length d1) := q1
      have q2 : wr.cell? ⟨g, i * 4 + 2, none⟩ = some (.int .u64 x.f2) := q2
      have q3 : wr.cell? ⟨g, i * 4 + 3, none⟩ = some (.slice A2 x.f3.length d2) := q3
      obtain ⟨b, hb⟩ : ∃ b, wr.heap.size = b := ⟨_, rfl⟩
      have hbx := HR.out.box #[.int .i64 x.f0, .slice A1 x.f1.length d1, .int .u64 x.f2, .slice A2 x.f3.length d2] 80
      have HC1 := Aside0.mk hC1
      have HC2 := Aside0.mk hC2
      subst hg
      rw [hb] at hbx
      have hbd := hbx.drew
      have hbk := hbd.blk
      have HDF := Aside0.mk hbd
      clear hcell hfz hset hKi hC1 hC2 hx hyl hcz hR hbx hbd
      go_wp2
      refine rg_startL (n := 16) (S := fun w' => w'.heap[b]? = some (.cells #[.int .i64 x.f0, .slice A1 x.f1.length d1, .int .u64 x.f2, .slice A2 x.f3.length d2] 80 (0, 0))) (bm 16 0) (by kernel_rfl) rfl (by kernel_rfl) (hbk) (fun wd hwd hHeld => ?_)
      refine rg_take (i := 0) (N := some 20) (v := ?_) (a' := ?_) (bm 16 1) rfl rfl (by kernel_rfl) (fun _ _ _ h => h) hHeld (Or.inl ⟨by rfl, ?_⟩) ?_ ?_
      rotate_left
      · intro w' hw'
        have s0 := blk_cell hw' 0
        have s1 := blk_cell hw' 1
        have s2 := blk_cell hw' 2
        have s3 := blk_cell hw' 3
        go_simp
        with_reducible rfl
      rotate_left
      · simp only [Act.put, List.setIfInBounds_toArray, List.set_cons_zero, List.set_cons_succ]
        rfl
      refine rg_take (i := 1) (N := some 21) (v := ?_) (a' := ?_) (bm 16 3) rfl rfl (by kernel_rfl) (fun _ _ _ h => h) hHeld (Or.inl ⟨by rfl, ?_⟩) ?_ ?_
      rotate_left
      · intro w' hw'
        have s0 := blk_cell hw' 0
        have s1 := blk_cell hw' 1
        have s2 := blk_cell hw' 2
        have s3 := blk_cell hw' 3
        go_simp
        with_reducible rfl
      rotate_left
      · simp only [Act.put, List.setIfInBounds_toArray, List.set_cons_zero, List.set_cons_succ]
        rfl
      refine rg_take (i := 2) (N := some 22) (v := ?_) (a' := ?_) (bm 16 7) rfl rfl (by kernel_rfl) (fun _ _ _ h => h) hHeld (Or.inl ⟨by rfl, ?_⟩) ?_ ?_
      rotate_left
      · intro w' hw'
        have s0 := blk_cell hw' 0
        have s1 := blk_cell hw' 1
        have s2 := blk_cell hw' 2
        have s3 := blk_cell hw' 3
        go_simp
        with_reducible rfl
      rotate_left
      · simp only [Act.put, List.setIfInBounds_toArray, List.set_cons_zero, List.set_cons_succ]
        rfl
      refine rg_take (i := 3) (N := some 23) (v := ?_) (a' := ?_) (bm 16 15) rfl rfl (by kernel_rfl) (fun _ _ _ h => h) hHeld (Or.inl ⟨by rfl, ?_⟩) ?_ ?_
      rotate_left
      · intro w' hw'
        have s0 := blk_cell hw' 0
        have s1 := blk_cell hw' 1
        have s2 := blk_cell hw' 2
        have s3 := blk_cell hw' 3
        go_simp
        with_reducible rfl
      rotate_left
      · simp only [Act.put, List.setIfInBounds_toArray, List.set_cons_zero, List.set_cons_succ]
        rfl
      refine rg_take (i := 4) (N := some 24) (v := ?_) (a' := ?_) (bm 16 31) rfl rfl (by kernel_rfl) (fun _ _ _ h => h) hHeld (Or.inl ⟨by rfl, ?_⟩) ?_ ?_
      rotate_left
      · intro w' hw'
        have s0 := blk_cell hw' 0
        have s1 := blk_cell hw' 1
        have s2 := blk_cell hw' 2
        have s3 := blk_cell hw' 3
        go_simp
        with_reducible rfl
      rotate_left
      · simp only [Act.put, List.setIfInBounds_toArray, List.set_cons_zero, List.set_cons_succ]
        rfl
      refine rg_take (i := 5) (N := some 25) (v := ?_) (a' := ?_) (bm 16 63) rfl rfl (by kernel_rfl) (fun _ _ _ h => h) hHeld (Or.inl ⟨by rfl, ?_⟩) ?_ ?_
      rotate_left
      · intro w' hw'
        have s0 := blk_cell hw' 0
        have s1 := blk_cell hw' 1
        have s2 := blk_cell hw' 2
        have s3 := blk_cell hw' 3
        go_simp
        with_reducible rfl
      rotate_left
      · simp only [Act.put, List.setIfInBounds_toArray, List.set_cons_zero, List.set_cons_succ]
        rfl
      refine rg_take (i := 7) (N := some 27) (v := ?_) (a' := ?_) (bm 16 191) rfl rfl (by kernel_rfl) (fun _ _ _ h => h) hHeld (Or.inl ⟨by rfl, ?_⟩) ?_ ?_
      rotate_left
      · intro w' hw'
        have s0 := blk_cell hw' 0
        have s1 := blk_cell hw' 1
        have s2 := blk_cell hw' 2
        have s3 := blk_cell hw' 3
        go_simp
        with_reducible rfl
      rotate_left
      · simp only [Act.put, List.setIfInBounds_toArray, List.set_cons_zero, List.set_cons_succ]
        rfl
      refine rg_take (i := 8) (N := some 28) (v := ?_) (a' := ?_) (bm 16 447) rfl rfl (by kernel_rfl) (fun _ _ _ h => h) hHeld (Or.inl ⟨by rfl, ?_⟩) ?_ ?_
      rotate_left
      · intro w' hw'
        have s0 := blk_cell hw' 0
        have s1 := blk_cell hw' 1
        have s2 := blk_cell hw' 2
        have s3 := blk_cell hw' 3
        go_simp
        with_reducible rfl
      rotate_left
      · simp only [Act.put, List.setIfInBounds_toArray, List.set_cons_zero, List.set_cons_succ]
        rfl
      refine rg_ready [6] (by kernel_rfl) (by simp) ?_
      refine rg_one (i := 6) (N := some 26) (bm 16 511) rfl rfl (by kernel_rfl) (fun K hK => ?_) rg_nil
      have HD := Aside0.mk (hwd.out ▸ HDF.out)
      go_simp
      go_at_call 33
      with_reducible refine (cloneU HD.out A1 d1 x.f1 (Kd.C_below HC1.out HD.out.bel) hd1 HXL.out.1).mono ?_
      rintro e wx6r7 ⟨v6, rfl, hs, _⟩
      obtain ⟨A6, d6, rfl, hd6, _⟩ := hs.reads
      have HD6 := Aside0.mk (show SB w wx6r7 [Box b #[.int .i64 x.f0, .slice A1 x.f1.length d1, .int .u64 x.f2, .slice A2 x.f3.length d2] 80, Row (Kd.raw 4) 80 (.slice (some ⟨g, 0, none⟩) n c3) R, Sep (rows2 y), Row (Kd.int .u64) 31 (.slice A6 x.f1.length d6) x.f1] from hs.pick4 [1, 2, 3, 0])
      have hnew := HD6.out.blk
      clear hs
      go_wp2_with fail
      refine hK.out _ _ hnew ?_
      clear hK K
      refine rg_norm (a' := ?_) ?_ ?_
      rotate_left
      · simp only [Act.put, List.setIfInBounds_toArray, List.set_cons_zero, List.set_cons_succ]
        rfl
      clear hHeld
      have hHeld := hnew
      clear hnew
      refine rg_ready [9] (by kernel_rfl) (by simp) ?_
      refine rg_one (i := 9) (N := some 29) (bm 16 1023) rfl rfl (by kernel_rfl) (fun K hK => ?_) rg_nil
      go_simp
      go_at_call 33
      with_reducible refine (cloneU HD6.out A2 d2 x.f3 (Kd.C_below HC2.out HD6.out.bel) hd2 HXL.out.2).mono ?_
      rintro e wx6x9r7 ⟨v9, rfl, hs, _⟩
      obtain ⟨A9, d9, rfl, hd9, _⟩ := hs.reads
      have HD9 := Aside0.mk (show SB w wx6x9r7 [Box b #[.int .i64 x.f0, .slice A1 x.f1.length d1, .int .u64 x.f2, .slice A2 x.f3.length d2] 80, Row (Kd.raw 4) 80 (.slice (some ⟨g, 0, none⟩) n c3) R, Sep (rows2 y), Row (Kd.int .u64) 31 (.slice A6 x.f1.length d6) x.f1, Row (Kd.int .u64) 31 (.slice A9 x.f3.length d9) x.f3] from hs.pick5 [1, 2, 3, 4, 0])
      have hnew := HD9.out.blk
      clear hs
      go_wp2_with fail
      refine hK.out _ _ hnew ?_
      clear hK K
      refine rg_norm (a' := ?_) ?_ ?_
      rotate_left
      · simp only [Act.put, List.setIfInBounds_toArray, List.set_cons_zero, List.set_cons_succ]
        rfl
      clear hHeld
      have hHeld := hnew
      clear hnew
      refine rg_take (i := 10) (N := some 30) (v := ?_) (a' := ?_) (bm 16 2047) rfl rfl (by kernel_rfl) (fun _ _ _ h => h) hHeld (Or.inl ⟨by rfl, ?_⟩) ?_ ?_
      rotate_left
      · intro w' hw'
        have s0 := blk_cell hw' 0
        have s1 := blk_cell hw' 1
        have s2 := blk_cell hw' 2
        have s3 := blk_cell hw' 3
        go_simp
        with_reducible rfl
      rotate_left
      · simp only [Act.put, List.setIfInBounds_toArray, List.set_cons_zero, List.set_cons_succ]
        rfl
      refine rg_take (i := 11) (N := some 31) (v := ?_) (a' := ?_) (bm 16 4095) rfl rfl (by kernel_rfl) (fun _ _ _ h => h) hHeld (Or.inl ⟨by rfl, ?_⟩) ?_ ?_
      rotate_left
      · intro w' hw'
        have s0 := blk_cell hw' 0
        have s1 := blk_cell hw' 1
        have s2 := blk_cell hw' 2
        have s3 := blk_cell hw' 3
        go_simp
        with_reducible rfl
      rotate_left
      · simp only [Act.put, List.setIfInBounds_toArray, List.set_cons_zero, List.set_cons_succ]
        rfl
      refine rg_ready [12] (by kernel_rfl) (by simp) ?_
      refine rg_one (i := 12) (N := none) (bm 16 8191) rfl rfl (by kernel_rfl) (fun K hK => ?_) rg_nil
      obtain ⟨g', hg', hcell', hfz', hset'⟩ := (HD9.out.pick2 [1, 0]).rawAt i HRI.out
      injection hg' with hg'
      injection hg' with hg'
      subst hg'
      have p1 := hcell' 1 (by decide)
      rw [HGI.out] at p1
      have p1 : World.cell? _ ⟨g, i * 4 + 1, none⟩ = some (.slice A1 x.f1.length d1) := p1
      have f1 := hfz' (i * 4 + 1)
      have h6 := hset' 1 (.slice A6 x.f1.length d6) (by decide) rfl
      rw [HGI.out] at h6
      obtain ⟨R2, hR2⟩ : ∃ R2, R.set i [Value.int .i64 x.f0, .slice A6 x.f1.length d6, .int .u64 x.f2, .slice A2 x.f3.length d2] = R2 := ⟨_, rfl⟩
      have HR2 := Aside0.mk hR2
      have HD12 := Aside0.mk (show SB w _ [Box b #[.int .i64 x.f0, .slice A1 x.f1.length d1, .int .u64 x.f2, .slice A2 x.f3.length d2] 80, Row (Kd.raw 4) 80 (.slice (some ⟨g, 0, none⟩) n c3) R2, Sep (rows2 y), Row (Kd.int .u64) 31 (.slice A6 x.f1.length d6) x.f1, Row (Kd.int .u64) 31 (.slice A9 x.f3.length d9) x.f3] from hR2 ▸ (h6.pick2 [1, 0]))
      have hnew := HD12.out.blk
      clear hcell' hfz' hset' h6 hR2
      go_simp
      refine hK.out undef _ hnew ?_
      clear hK K
      refine rg_norm (a' := ?_) ?_ ?_
      rotate_left
      · simp only [Act.put, List.setIfInBounds_toArray, List.set_cons_zero, List.set_cons_succ]
        rfl
      clear hHeld
      have hHeld := hnew
      clear hnew
      refine rg_take (i := 13) (N := some 32) (v := ?_) (a' := ?_) (bm 16 16383) rfl rfl (by kernel_rfl) (fun _ _ _ h => h) hHeld (Or.inl ⟨by rfl, ?_⟩) ?_ ?_
      rotate_left
      · intro w' hw'
        have s0 := blk_cell hw' 0
        have s1 := blk_cell hw' 1
        have s2 := blk_cell hw' 2
        have s3 := blk_cell hw' 3
        go_simp
        with_reducible rfl
      rotate_left
      · simp only [Act.put, List.setIfInBounds_toArray, List.set_cons_zero, List.set_cons_succ]
        rfl
      refine rg_take (i := 14) (N := some 33) (v := ?_) (a' := ?_) (bm 16 32767) rfl rfl (by kernel_rfl) (fun _ _ _ h => h) hHeld (Or.inl ⟨by rfl, ?_⟩) ?_ ?_
      rotate_left
      · intro w' hw'
        have s0 := blk_cell hw' 0
        have s1 := blk_cell hw' 1
        have s2 := blk_cell hw' 2
        have s3 := blk_cell hw' 3
        go_simp
        with_reducible rfl
      rotate_left
      · simp only [Act.put, List.setIfInBounds_toArray, List.set_cons_zero, List.set_cons_succ]
        rfl
      refine rg_ready [15] (by kernel_rfl) (by simp) ?_
      refine rg_one (i := 15) (N := none) (bm 16 65535) rfl rfl (by kernel_rfl) (fun K hK => ?_) rg_nil
      have HRI2 := Aside0.mk (show i < R2.length by rw [← HR2.out, List.length_set]; exact HRI.out)
      have HGI2 := Aside0.mk (show ∀ h : i < R2.length, R2[i] = [.int .i64 x.f0, .slice A6 x.f1.length d6, .int .u64 x.f2, .slice A2 x.f3.length d2] by rw [← HR2.out]; intro h; simp)
      obtain ⟨g', hg', hcell', hfz', hset'⟩ := (HD12.out.pick2 [1, 0]).rawAt i HRI2.out
      injection hg' with hg'
      injection hg' with hg'
      subst hg'
      have p3 := hcell' 3 (by decide)
      rw [HGI2.out] at p3
      have p3 : World.cell? _ ⟨g, i * 4 + 3, none⟩ = some (.slice A2 x.f3.length d2) := p3
      have f3 := hfz' (i * 4 + 3)
      have h6 := hset' 3 (.slice A9 x.f3.length d9) (by decide) rfl
      rw [HGI2.out, ← HR2.out, List.set_set] at h6
      have h6 := h6.pick2 [1, 0]
      have HD15 := Aside0.mk h6
      have hnew : _ = some (Obj.cells #[.int .i64 x.f0, .slice A1 x.f1.length d1, .int .u64 x.f2, .slice A2 x.f3.length d2] 80 (0, 0)) := h6.blk
      clear hcell' hfz' hset' h6
      go_simp
      refine hK.out undef _ hnew ?_
      clear hK K
      refine rg_norm (a' := ?_) ?_ ?_
      rotate_left
      · simp only [Act.put, List.setIfInBounds_toArray, List.set_cons_zero, List.set_cons_succ]
        rfl
      clear hHeld
      have hHeld := hnew
      clear hnew
      refine rg_done (by kernel_rfl) ?_
      go_wp2
      have h7 : SB w _ [Box b #[.int .i64 x.f0, .slice A1 x.f1.length d1, .int .u64 x.f2, .slice A2 x.f3.length d2] 80, Row (Kd.raw 4) 80 (.slice (some ⟨g, 0, none⟩) n c3) (R.set i [Value.int .i64 x.f0, .slice A6 x.f1.length d6, .int .u64 x.f2, .slice A9 x.f3.length d9]), Sep (rows2 y), Row (Kd.int .u64) 31 (.slice A6 x.f1.length d6) x.f1, Row (Kd.int .u64) 31 (.slice A9 x.f3.length d9) x.f3] := HD15.out
      rw [HNEW.out] at h7
      have H7 := Aside0.mk (SB.sepPush (SB.two (h7.pick5 [3, 4, 2, 1]))).swap
      clear h7
      refine ⟨⟨i + 1, y ++ [(x, .slice A6 x.f1.length d6, .slice A9 x.f3.length d9)], by simp, by omega, ⟨?_⟩, ⟨?_⟩⟩, by simp [intOf]; omega⟩
      · rw [List.map_append, HY.out, List.take_succ_eq_append_getElem hil, HX.out]; rfl
      · rw [rows2_push]
        exact H7.out
    · have e1 : decide ((i : Int) < (n : Int)) = false := decide_eq_false (by omega)
      have e2 : decide (i < n) = false := decide_eq_false hlt
      obtain rfl : i = n := by omega
      have hy := HY.out
      rw [List.take_of_length_le (by rw [HN.out]; exact Nat.le_refl _)] at hy
      have hr := HR.out
      rw [List.drop_of_length_le (by rw [HZL.out]; exact Nat.le_refl _), List.append_nil] at hr
      have HE := Aside0.mk (SB.clClose hy hr)
      clear hy hr
      go_wp2
      go_ret
      exact ⟨_, rfl, HE.out⟩
theorem hstLog {w0 w : World} {L : List As} {p : Nat} {rs : List S86} {lg : List S80} (hS : SB w0 w (HO p rs lg :: L)) (hl : lg.length ≤ 1000000) (hM : ∀ x ∈ lg, x.f1.length ≤ 1000000 ∧ x.f3.length ≤ 1000000) :
    Calls Try.prog 15 #[.pointer (some ⟨p, 0, none⟩)] w fun e w' => ∃ A c, e = .returned (.slice A lg.length c) ∧ lg.length ≤ c ∧ SB w0 w' (CLs (.slice A lg.length c) lg :: HO p rs lg :: L) := by
  obtain ⟨A, c, z, vl, hc, h1⟩ := hS.hoOpen
  obtain ⟨y, hy, h2⟩ := (h1.pick3 [2, 0]).clOpen
  obtain ⟨Av, cv, rfl, hcv, _⟩ := h2.reads
  have hyl : (y.map c4).length = lg.length := by rw [List.length_map]; have := congrArg List.length hy; simpa using this
  rw [hyl] at h1 h2 hcv
  have hC := reads2 h2
  rw [hy] at hC
  refine (hstLog_ w p _ Av cv lg (blk_cell h1.blk 0) (blk_cell h1.blk 1) hC hcv hl hM).mono ?_
  rintro e w' ⟨v, rfl, hs⟩
  obtain ⟨y2, hy2, h3⟩ := hs.clOpen
  obtain ⟨A3, c3, rfl, h4, _⟩ := h3.reads
  have hyl2 : (y2.map c4).length = lg.length := by rw [List.length_map]; have := congrArg List.length hy2; simpa using this
  rw [hyl2] at hs h4 ⊢
  exact ⟨A3, c3, rfl, h4, hS.join (L1 := [_]) hs⟩
end Go.Proofs.Ytbjglicdamenhaa.G
