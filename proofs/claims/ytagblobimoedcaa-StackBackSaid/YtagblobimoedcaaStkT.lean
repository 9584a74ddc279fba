/- A stack as the document's. -/
import Derived.Test.YtagblobimoedcaaStkL
import Derived.Test.YtagblobimoedcaaStkP
namespace Go.Proofs.Ytagblobimoedcaa.G
open Go.RowKit Go.Proofs.YtagblobimoedcaaW.PrintWords Go.Proofs.YtagblobimoedcaaW.PrintLast Go.Proofs.YtagblobimoedcaaW.PrintMore
set_option linter.unusedVariables false
set_option linter.unusedSimpArgs false
/-- As kAt: the document's. -/
def kAtT (W : World) : Kd S59 where
  sz := 4
  E := []
  K _ x cs := k59.K W x cs
  M _ _ _ x cs := k59.K W x cs
  K_len h := k59.K_len h
  K_one h := k59.K_one h
  K_below _ h := h
  K_of_M h := h
  M_mono _ h := h
  M_bound h := h
  M_move _ h := h
  M_lower _ h := h
theorem kAtT_up {W w : World} {A : Option Addr} {n : Nat} {xs : List S59} (h : Kd.C (kAtT W) w A n xs) (hb : Below W.heap.size W w) : Kd.C k59 w A n xs :=
  ReadsRow.imp_ (R' := k59.K w) h (Below.refl _ _) (fun _ _ hp => k59.K_below hb hp)
/-- A stack of the document's as it stands at a world. -/
structure HoldT (w : World) (A0 : Option Addr) (c0 : Nat) (A1 : Option Addr) (c1 : Nat) (v : List Int) (cs : List S59) : Prop where
  hv : Kd.C (Kd.int .u8) w A0 v.length v
  hc : Kd.C k59 w A1 cs.length cs
  lv : v.length ≤ c0
  lc : cs.length ≤ c1
theorem HoldT.below {w w' : World} {A0 A1 : Option Addr} {c0 c1 : Nat} {v : List Int} {cs : List S59} (h : HoldT w A0 c0 A1 c1 v cs) (hb : Below w.heap.size w w') : HoldT w' A0 c0 A1 c1 v cs := ⟨Kd.C_below h.hv hb, Kd.C_below h.hc hb, h.lv, h.lc⟩
def toT (c : S31) : S59 := ⟨c.f0, c.f1, c.f2, c.f3⟩
set_option maxRecDepth 100000 in
theorem ctrlS (a h : Int) (A : Option Addr) (n c : Nat) (d : Bool) (w : World) : Calls Try.prog 33 #[.agg #[.int .i64 a, .slice A n c, .int .i64 h, .bool d]] w fun e w' => e = .returned (.agg #[.int .i64 a, .slice A n c, .int .i64 h, .bool d]) ∧ Below w.heap.size w w' := by
  have HW := Aside0.mk (((SB.start w).box #[.int .i64 a, .slice A n c, .int .i64 h, .bool d] 31).box #[.int .i64 0, .slice none 0 0, .int .i64 0, .bool false] 59)
  rw [World.size_alloc] at HW
  go_enter Try.func33, Try.ntmps33
  go_wp2
  exact bodyPost_ret (v := .agg #[.int .i64 a, .slice A n c, .int .i64 h, .bool d]) (by simp [results, Try.results33, go_sem]) rfl ⟨rfl, by first | exact below_alloc (below_alloc (Below.refl _ _) _) _ | exact (((((HW.out.set1 0 (.int .i64 a)).set1 1 (.slice A n c)).set1 2 (.int .i64 h)).set1 3 (.bool d)).bel)⟩
theorem lit1T {W w : World} {pl : Nat} {x : S59} {Ae : Option Addr} {ce : Nat} (hb : w.heap[pl]? = some (.cells #[.int .i64 x.f0, .slice Ae x.f1.length ce, .int .i64 x.f2, .bool x.f3] 59 (0, 0))) (hl : x.f1.length ≤ ce) (hC : Kd.C (Kd.int .u8) W Ae x.f1.length x.f1) :
    ReadsRow ((kAtT W).K w) 4 w (some ⟨pl, 0, none⟩) 1 [x] := by
  refine ⟨rfl, by decide, fun _ => ⟨_, rfl, fun j p hj => ?_⟩⟩
  match j with
  | 0 =>
    simp only [List.getElem?_cons_zero, Option.some.injEq] at hj
    subst hj
    refine ⟨[.int .i64 x.f0, .slice Ae x.f1.length ce, .int .i64 x.f2, .bool x.f3], rfl, k59_mk W x hl hC, fun i u hu => ?_⟩
    rw [add0]
    have h2 := blk_cell hb (0 * 4 + i)
    rw [h2]
    simpa using hu
  | j + 1 => simp at hj
set_option maxHeartbeats 8000000 in
set_option maxRecDepth 100000 in
theorem theirsS {w : World} {A0 A1_ : Option Addr} {c0 c1 : Nat} {v : List Int} {cs : List S31} (h : HoldS w A0 c0 A1_ c1 v cs) (hm : cs.length ≤ 1000000) :
    Calls Try.prog 16 #[.agg #[.slice A0 v.length c0, .slice A1_ cs.length c1]] w fun e w' => ∃ B1 d1, e = .returned (.agg #[.slice A0 v.length c0, .slice B1 (cs.map toT).length d1]) ∧ HoldT w' A0 c0 B1 d1 v (cs.map toT) ∧ Below w.heap.size w w' := by
  have HH := Aside0.mk h
  clear h
  have hi59 := info59
  have HW := Aside0.mk (((((SB.start w).box #[.slice A0 v.length c0, .slice A1_ cs.length c1] 28)).box #[.slice none 0 0, .slice none 0 0] 39).box #[.slice A0 v.length c0, .slice none 0 0] 39)
  rw [World.size_alloc, World.size_alloc] at HW
  have HW2 := Aside0.mk ((HW.out.new (A := Row (kAtT w) 59 (.slice none 0 0) []) (F' := fun _ => False) (Below.refl _ _) ⟨Kd.R_nil _ _ _ _ _, fun k hk => hk.elim⟩ (fun k hk => hk.elim)).pick [0, 1, 2, 3])
  clear HW
  go_enter Try.func16, Try.ntmps16
  go_wp2
  go_loopw [4] (fun v4 wr => ∃ (i : Nat) (vr : Value) (ts : List S59), v4 = .int .i64 i ∧ i ≤ cs.length ∧ Aside0 (ts = (cs.take i).map toT) ∧
      Aside0 (SB w wr [Row (kAtT w) 59 vr ts, Box (w.heap.size + 1 + 1) #[.slice A0 v.length c0, vr] 39, Box (w.heap.size + 1) #[.slice none 0 0, .slice none 0 0] 39, Box w.heap.size #[.slice A0 v.length c0, .slice A1_ cs.length c1] 28])) (fun v4 _ => cs.length - (intOf v4).toNat)
  case atStart => exact ⟨0, _, [], rfl, Nat.zero_le _, ⟨rfl⟩, ⟨HW2.out⟩⟩
  case round =>
    obtain ⟨i, vr, ts, rfl, hi, HTS, HWr⟩ := hrel
    have x1 := SB.boxAt w.heap.size 28 HWr.out
    have k0 := blk_cell x1 0
    have k1 := blk_cell x1 1
    clear x1
    by_cases hlt : i < cs.length
    · have d1 : decide ((i : Int) < (cs.length : Int)) = true := decide_eq_true (by omega)
      have d2 : decide (i < cs.length) = true := decide_eq_true hlt
      have p0 := eq_true (show (0 : Int) ≤ (i : Int) by omega)
      obtain ⟨ad, Ae, ce, had, r0, r1, r2, r3, l1, g1⟩ := at_T31 HH.out.hc (i : Int) (by omega) (by omega)
      have hr : rd_T31 cs (i : Int) = cs[i] := by unfold rd_T31; rw [Int.toNat_natCast, List.getD_eq_getElem?_getD, List.getElem?_eq_getElem hlt]; rfl
      rw [hr] at r0 r1 r2 r3 l1 g1
      obtain ⟨x, hx⟩ : ∃ x, cs[i] = x := ⟨_, rfl⟩
      rw [hx] at r0 r1 r2 r3 l1 g1
      simp only [Int.toNat_natCast] at r0 r1 r2 r3
      have hadl := World.block_lt_of_cell? w _ r0
      have HAC := Aside0.mk (show ∀ W, Below w.heap.size w W → W.cell? (ad.add (i * 4)) = some (.int .i64 x.f0) ∧ W.cell? ⟨(ad.add (i * 4)).block, (ad.add (i * 4)).off + 1, none⟩ = some (.slice Ae x.f1.length ce) ∧ W.cell? ⟨(ad.add (i * 4)).block, (ad.add (i * 4)).off + 2, none⟩ = some (.int .i64 x.f2) ∧ W.cell? ⟨(ad.add (i * 4)).block, (ad.add (i * 4)).off + 3, none⟩ = some (.bool x.f3) from
        fun W hW => ⟨(hW.cell hadl).trans r0, (hW.cell (p := ⟨(ad.add (i * 4)).block, (ad.add (i * 4)).off + 1, none⟩) hadl).trans r1, (hW.cell (p := ⟨(ad.add (i * 4)).block, (ad.add (i * 4)).off + 2, none⟩) hadl).trans r2, (hW.cell (p := ⟨(ad.add (i * 4)).block, (ad.add (i * 4)).off + 3, none⟩) hadl).trans r3⟩)
      have HC5 := Aside0.mk g1
      have HTN := Aside0.mk (show (cs.take (i + 1)).map toT = ts ++ [toT x] from by rw [List.take_succ_eq_append_getElem hlt, List.map_append, HTS.out, hx]; rfl)
      obtain ⟨tx, htx⟩ : ∃ tx, ts ++ [toT x] = tx := ⟨_, rfl⟩
      rw [htx] at HTN
      have HTX := Aside0.mk htx
      clear htx
      have htl : ts.length = i := by rw [HTS.out, List.length_map, List.length_take]; omega
      subst had
      clear hr hx g1 r0 r1 r2 r3 hadl
      go_wp2
      have HD := Aside0.mk HWr.out.drew
      have hS0 : SB w wr.drew [BoxO (w.heap.size + 1 + 1) 39 2 none, Box w.heap.size #[.slice A0 v.length c0, .slice (some ad) cs.length c1] 28] := ((HD.out.pick [1, 3]).boxHide 2)
      refine rg_startL (n := 12) (S := fun w' => SB w w' [BoxO (w.heap.size + 1 + 1) 39 2 none, Box w.heap.size #[.slice A0 v.length c0, .slice (some ad) cs.length c1] 28]) (bm 12 0) (by kernel_rfl) rfl (by kernel_rfl) (hS0) (fun wd hwd hHeld => ?_)
      refine rg_take (i := 0) (N := some 15) (v := ?_) (a' := ?_) (bm 12 1) rfl rfl (by kernel_rfl) (fun _ _ _ h => h) hHeld (Or.inl ⟨by rfl, ?_⟩) ?_ ?_
      rotate_left
      · intro w' hw'
        have hbx := SB.boxAt w.heap.size 28 hw'
        have s0 := blk_cell hbx 0
        have s1 := blk_cell hbx 1
        obtain ⟨r0, r1, r2, r3⟩ := HAC.out w' hw'.bel
        go_simp
        with_reducible rfl
      rotate_left
      · simp only [Act.put, List.setIfInBounds_toArray, List.set_cons_zero, List.set_cons_succ]
        rfl
      refine rg_take (i := 2) (N := some 17) (v := ?_) (a' := ?_) (bm 12 5) rfl rfl (by kernel_rfl) (fun _ _ _ h => h) hHeld (Or.inl ⟨by rfl, ?_⟩) ?_ ?_
      rotate_left
      · intro w' hw'
        have hbx := SB.boxAt w.heap.size 28 hw'
        have s0 := blk_cell hbx 0
        have s1 := blk_cell hbx 1
        obtain ⟨r0, r1, r2, r3⟩ := HAC.out w' hw'.bel
        go_simp
        with_reducible rfl
      rotate_left
      · simp only [Act.put, List.setIfInBounds_toArray, List.set_cons_zero, List.set_cons_succ]
        rfl
      refine rg_take (i := 3) (N := some 18) (v := ?_) (a' := ?_) (bm 12 13) rfl rfl (by kernel_rfl) (fun _ _ _ h => h) hHeld (Or.inl ⟨by rfl, ?_⟩) ?_ ?_
      rotate_left
      · intro w' hw'
        have hbx := SB.boxAt w.heap.size 28 hw'
        have s0 := blk_cell hbx 0
        have s1 := blk_cell hbx 1
        obtain ⟨r0, r1, r2, r3⟩ := HAC.out w' hw'.bel
        go_simp
        with_reducible rfl
      rotate_left
      · simp only [Act.put, List.setIfInBounds_toArray, List.set_cons_zero, List.set_cons_succ]
        rfl
      refine rg_take (i := 4) (N := some 19) (v := ?_) (a' := ?_) (bm 12 29) rfl rfl (by kernel_rfl) (fun _ _ _ h => h) hHeld (Or.inl ⟨by rfl, ?_⟩) ?_ ?_
      rotate_left
      · intro w' hw'
        have hbx := SB.boxAt w.heap.size 28 hw'
        have s0 := blk_cell hbx 0
        have s1 := blk_cell hbx 1
        obtain ⟨r0, r1, r2, r3⟩ := HAC.out w' hw'.bel
        go_simp
        with_reducible rfl
      rotate_left
      · simp only [Act.put, List.setIfInBounds_toArray, List.set_cons_zero, List.set_cons_succ]
        rfl
      refine rg_take (i := 5) (N := some 20) (v := ?_) (a' := ?_) (bm 12 61) rfl rfl (by kernel_rfl) (fun _ _ _ h => h) hHeld (Or.inl ⟨by rfl, ?_⟩) ?_ ?_
      rotate_left
      · intro w' hw'
        have hbx := SB.boxAt w.heap.size 28 hw'
        have s0 := blk_cell hbx 0
        have s1 := blk_cell hbx 1
        obtain ⟨r0, r1, r2, r3⟩ := HAC.out w' hw'.bel
        go_simp
        with_reducible rfl
      rotate_left
      · simp only [Act.put, List.setIfInBounds_toArray, List.set_cons_zero, List.set_cons_succ]
        rfl
      refine rg_take (i := 6) (N := some 21) (v := ?_) (a' := ?_) (bm 12 125) rfl rfl (by kernel_rfl) (fun _ _ _ h => h) hHeld (Or.inl ⟨by rfl, ?_⟩) ?_ ?_
      rotate_left
      · intro w' hw'
        have hbx := SB.boxAt w.heap.size 28 hw'
        have s0 := blk_cell hbx 0
        have s1 := blk_cell hbx 1
        obtain ⟨r0, r1, r2, r3⟩ := HAC.out w' hw'.bel
        go_simp
        with_reducible rfl
      rotate_left
      · simp only [Act.put, List.setIfInBounds_toArray, List.set_cons_zero, List.set_cons_succ]
        rfl
      refine rg_ready [1, 7] (by kernel_rfl) (by simp) ?_
      refine rg_one (i := 1) (N := some 16) (bm 12 127) rfl rfl (by kernel_rfl) (fun K hK => ?_) ?_
      · skip
        (try replace HD : Aside0 (SB w wd _) := ⟨hwd.out ▸ HD.out⟩)
        have x3 := SB.boxAt (w.heap.size + 1 + 1) 39 HD.out
        have s1 := blk_cell x3 1
        refine value_ (w1 := ?_) (v := ?_) (by rfl) rfl ?_ ?_
        rotate_left 2
        · go_simp
          constructor
          · with_reducible rfl
          · with_reducible rfl
        have hnew := hHeld
        refine hK.out _ _ hnew ?_
        clear hK K
        refine rg_norm (a' := ?_) ?_ ?_
        rotate_left
        · simp only [Act.put, List.setIfInBounds_toArray, List.set_cons_zero, List.set_cons_succ]
          rfl
        clear hHeld
        have hHeld := hnew
        clear hnew
        refine rg_ready [7] (by kernel_rfl) (by simp) ?_
        refine rg_one (i := 7) (N := some 22) (bm 12 255) rfl rfl (by kernel_rfl) (fun K hK => ?_) rg_nil
        (try replace HD : Aside0 (SB w wd _) := ⟨hwd.out ▸ HD.out⟩)
        go_simp
        go_at_call 33
        with_reducible refine (ctrlS x.f0 x.f2 Ae x.f1.length ce x.f3 _).mono ?_
        rintro e wx1x7r5 ⟨rfl, hb⟩
        have HD2 := Aside0.mk (HD.out.below hb)
        clear HD
        have HD := HD2
        clear HD2
        have hnew := hHeld.below hb
        clear hb
        go_wp2_with fail
        refine hK.out _ _ hnew ?_
        clear hK K
        refine rg_norm (a' := ?_) ?_ ?_
        rotate_left
        · simp only [Act.put, List.setIfInBounds_toArray, List.set_cons_zero, List.set_cons_succ]
          rfl
        clear hHeld
        have hHeld := hnew
        clear hnew
        refine rg_ready [8] (by kernel_rfl) (by simp) ?_
        refine rg_one (i := 8) (N := some 23) (bm 12 511) rfl rfl (by kernel_rfl) (fun K hK => ?_) rg_nil
        refine valueL_ (w1 := ?_) (v := ?_) (by rfl) rfl ?_ ?_
        rotate_left 2
        · go_simp
          constructor
          · rfl
          · rfl
        intro wx1x7x8r5 hwwx1x7x8r5
        obtain ⟨pl, hpl, hnx⟩ := HD.out.boxE #[.int .i64 x.f0, .slice Ae x.f1.length ce, .int .i64 x.f2, .bool x.f3] 59
        replace hnx : SB w wx1x7x8r5 _ := hwwx1x7x8r5 ▸ hnx
        have hnew := hHeld.alloc (.cells #[.int .i64 x.f0, .slice Ae x.f1.length ce, .int .i64 x.f2, .bool x.f3] 59)
        replace hnew : SB w wx1x7x8r5 _ := hwwx1x7x8r5 ▸ hnew
        clear HD
        have HD := Aside0.mk hnx.swap
        clear hwwx1x7x8r5 hnx
        rw [← hpl]
        clear hpl
        refine hK.out _ _ hnew ?_
        clear hK K
        refine rg_norm (a' := ?_) ?_ ?_
        rotate_left
        · simp only [Act.put, List.setIfInBounds_toArray, List.set_cons_zero, List.set_cons_succ]
          rfl
        clear hHeld
        have hHeld := hnew
        clear hnew
        refine rg_ready [9] (by kernel_rfl) (by simp) ?_
        refine rg_one (i := 9) (N := some 24) (bm 12 1023) rfl rfl (by kernel_rfl) (fun K hK => ?_) rg_nil
        have hbl := SB.boxAt pl 59 HD.out
        refine SB.appRowsStep (d := kAtT w) (ys := [toT x]) HD.out (by rfl) (.tmp 16) (.tmp 23) 37 _ _ rfl Try.underlying37 hi59 rfl (show 0 < 4 by decide) (by decide) rfl rfl (fun _ _ h => h) (lit1T (x := toT x) hbl l1 HC5.out) (by omega) ?_
        rw [HTX.out]
        intro v8 wx1x7x8x9r5 hs
        obtain ⟨A8, c8, e8, _, _⟩ := hs.reads
        subst e8
        clear HD
        have HD := Aside0.mk hs
        have hnew := (hs.pick [2, 4]).boxHide 2
        clear hs hbl
        refine hK.out _ _ hnew ?_
        clear hK K
        refine rg_norm (a' := ?_) ?_ ?_
        rotate_left
        · simp only [Act.put, List.setIfInBounds_toArray, List.set_cons_zero, List.set_cons_succ]
          rfl
        clear hHeld
        have hHeld := hnew
        clear hnew
        refine rg_take (i := 10) (N := some 25) (v := ?_) (a' := ?_) (bm 12 2047) rfl rfl (by kernel_rfl) (fun _ _ _ h => h) hHeld (Or.inl ⟨by rfl, ?_⟩) ?_ ?_
        rotate_left
        · intro w' hw'
          have hbx := SB.boxAt w.heap.size 28 hw'
          have s0 := blk_cell hbx 0
          have s1 := blk_cell hbx 1
          obtain ⟨r0, r1, r2, r3⟩ := HAC.out w' hw'.bel
          go_simp
          with_reducible rfl
        rotate_left
        · simp only [Act.put, List.setIfInBounds_toArray, List.set_cons_zero, List.set_cons_succ]
          rfl
        refine rg_ready [11] (by kernel_rfl) (by simp) ?_
        refine rg_one (i := 11) (N := none) (bm 12 4095) rfl rfl (by kernel_rfl) (fun K hK => ?_) rg_nil
        have x3 := SB.boxAt (w.heap.size + 1 + 1) 39 HD.out
        have s1 := blk_cell x3 1
        have y1 := blk_fro x3 1
        have HE := Aside0.mk ((HD.out.pick [2, 0, 3, 4]).set1 1 (.slice A8 tx.length c8))
        have hnew := (HE.out.pick [0, 3]).boxHide 2
        go_simp
        refine hK.out undef _ hnew ?_
        clear hK K
        refine rg_norm (a' := ?_) ?_ ?_
        rotate_left
        · simp only [Act.put, List.setIfInBounds_toArray, List.set_cons_zero, List.set_cons_succ]
          rfl
        clear hHeld
        have hHeld := hnew
        clear hnew
        refine rg_done (by kernel_rfl) ?_
        go_wp2
        go_roundw
        case rel => exact ⟨i + 1, _, _, by go_num, by omega, ⟨HTN.out.symm⟩, ⟨HE.out.pick [1, 0, 2, 3]⟩⟩
        case measure => simp [intOf]; omega
      refine rg_one (i := 7) (N := some 22) (bm 12 253) rfl rfl (by kernel_rfl) (fun K hK => ?_) ?_
      · skip
        (try replace HD : Aside0 (SB w wd _) := ⟨hwd.out ▸ HD.out⟩)
        go_simp
        go_at_call 33
        with_reducible refine (ctrlS x.f0 x.f2 Ae x.f1.length ce x.f3 _).mono ?_
        rintro e wx7r5 ⟨rfl, hb⟩
        have HD2 := Aside0.mk (HD.out.below hb)
        clear HD
        have HD := HD2
        clear HD2
        have hnew := hHeld.below hb
        clear hb
        go_wp2_with fail
        refine hK.out _ _ hnew ?_
        clear hK K
        refine rg_norm (a' := ?_) ?_ ?_
        rotate_left
        · simp only [Act.put, List.setIfInBounds_toArray, List.set_cons_zero, List.set_cons_succ]
          rfl
        clear hHeld
        have hHeld := hnew
        clear hnew
        refine rg_ready [1, 8] (by kernel_rfl) (by simp) ?_
        refine rg_one (i := 1) (N := some 16) (bm 12 255) rfl rfl (by kernel_rfl) (fun K hK => ?_) ?_
        · skip
          (try replace HD : Aside0 (SB w wd _) := ⟨hwd.out ▸ HD.out⟩)
          have x3 := SB.boxAt (w.heap.size + 1 + 1) 39 HD.out
          have s1 := blk_cell x3 1
          refine value_ (w1 := ?_) (v := ?_) (by rfl) rfl ?_ ?_
          rotate_left 2
          · go_simp
            constructor
            · with_reducible rfl
            · with_reducible rfl
          have hnew := hHeld
          refine hK.out _ _ hnew ?_
          clear hK K
          refine rg_norm (a' := ?_) ?_ ?_
          rotate_left
          · simp only [Act.put, List.setIfInBounds_toArray, List.set_cons_zero, List.set_cons_succ]
            rfl
          clear hHeld
          have hHeld := hnew
          clear hnew
          refine rg_ready [8] (by kernel_rfl) (by simp) ?_
          refine rg_one (i := 8) (N := some 23) (bm 12 511) rfl rfl (by kernel_rfl) (fun K hK => ?_) rg_nil
          refine valueL_ (w1 := ?_) (v := ?_) (by rfl) rfl ?_ ?_
          rotate_left 2
          · go_simp
            constructor
            · rfl
            · rfl
          intro wx7x1x8r5 hwwx7x1x8r5
          obtain ⟨pl, hpl, hnx⟩ := HD.out.boxE #[.int .i64 x.f0, .slice Ae x.f1.length ce, .int .i64 x.f2, .bool x.f3] 59
          replace hnx : SB w wx7x1x8r5 _ := hwwx7x1x8r5 ▸ hnx
          have hnew := hHeld.alloc (.cells #[.int .i64 x.f0, .slice Ae x.f1.length ce, .int .i64 x.f2, .bool x.f3] 59)
          replace hnew : SB w wx7x1x8r5 _ := hwwx7x1x8r5 ▸ hnew
          clear HD
          have HD := Aside0.mk hnx.swap
          clear hwwx7x1x8r5 hnx
          rw [← hpl]
          clear hpl
          refine hK.out _ _ hnew ?_
          clear hK K
          refine rg_norm (a' := ?_) ?_ ?_
          rotate_left
          · simp only [Act.put, List.setIfInBounds_toArray, List.set_cons_zero, List.set_cons_succ]
            rfl
          clear hHeld
          have hHeld := hnew
          clear hnew
          refine rg_ready [9] (by kernel_rfl) (by simp) ?_
          refine rg_one (i := 9) (N := some 24) (bm 12 1023) rfl rfl (by kernel_rfl) (fun K hK => ?_) rg_nil
          have hbl := SB.boxAt pl 59 HD.out
          refine SB.appRowsStep (d := kAtT w) (ys := [toT x]) HD.out (by rfl) (.tmp 16) (.tmp 23) 37 _ _ rfl Try.underlying37 hi59 rfl (show 0 < 4 by decide) (by decide) rfl rfl (fun _ _ h => h) (lit1T (x := toT x) hbl l1 HC5.out) (by omega) ?_
          rw [HTX.out]
          intro v8 wx7x1x8x9r5 hs
          obtain ⟨A8, c8, e8, _, _⟩ := hs.reads
          subst e8
          clear HD
          have HD := Aside0.mk hs
          have hnew := (hs.pick [2, 4]).boxHide 2
          clear hs hbl
          refine hK.out _ _ hnew ?_
          clear hK K
          refine rg_norm (a' := ?_) ?_ ?_
          rotate_left
          · simp only [Act.put, List.setIfInBounds_toArray, List.set_cons_zero, List.set_cons_succ]
            rfl
          clear hHeld
          have hHeld := hnew
          clear hnew
          refine rg_take (i := 10) (N := some 25) (v := ?_) (a' := ?_) (bm 12 2047) rfl rfl (by kernel_rfl) (fun _ _ _ h => h) hHeld (Or.inl ⟨by rfl, ?_⟩) ?_ ?_
          rotate_left
          · intro w' hw'
            have hbx := SB.boxAt w.heap.size 28 hw'
            have s0 := blk_cell hbx 0
            have s1 := blk_cell hbx 1
            obtain ⟨r0, r1, r2, r3⟩ := HAC.out w' hw'.bel
            go_simp
            with_reducible rfl
          rotate_left
          · simp only [Act.put, List.setIfInBounds_toArray, List.set_cons_zero, List.set_cons_succ]
            rfl
          refine rg_ready [11] (by kernel_rfl) (by simp) ?_
          refine rg_one (i := 11) (N := none) (bm 12 4095) rfl rfl (by kernel_rfl) (fun K hK => ?_) rg_nil
          have x3 := SB.boxAt (w.heap.size + 1 + 1) 39 HD.out
          have s1 := blk_cell x3 1
          have y1 := blk_fro x3 1
          have HE := Aside0.mk ((HD.out.pick [2, 0, 3, 4]).set1 1 (.slice A8 tx.length c8))
          have hnew := (HE.out.pick [0, 3]).boxHide 2
          go_simp
          refine hK.out undef _ hnew ?_
          clear hK K
          refine rg_norm (a' := ?_) ?_ ?_
          rotate_left
          · simp only [Act.put, List.setIfInBounds_toArray, List.set_cons_zero, List.set_cons_succ]
            rfl
          clear hHeld
          have hHeld := hnew
          clear hnew
          refine rg_done (by kernel_rfl) ?_
          go_wp2
          go_roundw
          case rel => exact ⟨i + 1, _, _, by go_num, by omega, ⟨HTN.out.symm⟩, ⟨HE.out.pick [1, 0, 2, 3]⟩⟩
          case measure => simp [intOf]; omega
        refine rg_one (i := 8) (N := some 23) (bm 12 509) rfl rfl (by kernel_rfl) (fun K hK => ?_) ?_
        · skip
          refine valueL_ (w1 := ?_) (v := ?_) (by rfl) rfl ?_ ?_
          rotate_left 2
          · go_simp
            constructor
            · rfl
            · rfl
          intro wx7x8r5 hwwx7x8r5
          obtain ⟨pl, hpl, hnx⟩ := HD.out.boxE #[.int .i64 x.f0, .slice Ae x.f1.length ce, .int .i64 x.f2, .bool x.f3] 59
          replace hnx : SB w wx7x8r5 _ := hwwx7x8r5 ▸ hnx
          have hnew := hHeld.alloc (.cells #[.int .i64 x.f0, .slice Ae x.f1.length ce, .int .i64 x.f2, .bool x.f3] 59)
          replace hnew : SB w wx7x8r5 _ := hwwx7x8r5 ▸ hnew
          clear HD
          have HD := Aside0.mk hnx.swap
          clear hwwx7x8r5 hnx
          rw [← hpl]
          clear hpl
          refine hK.out _ _ hnew ?_
          clear hK K
          refine rg_norm (a' := ?_) ?_ ?_
          rotate_left
          · simp only [Act.put, List.setIfInBounds_toArray, List.set_cons_zero, List.set_cons_succ]
            rfl
          clear hHeld
          have hHeld := hnew
          clear hnew
          refine rg_ready [1] (by kernel_rfl) (by simp) ?_
          refine rg_one (i := 1) (N := some 16) (bm 12 511) rfl rfl (by kernel_rfl) (fun K hK => ?_) rg_nil
          (try replace HD : Aside0 (SB w wd _) := ⟨hwd.out ▸ HD.out⟩)
          have x3 := SB.boxAt (w.heap.size + 1 + 1) 39 HD.out
          have s1 := blk_cell x3 1
          refine value_ (w1 := ?_) (v := ?_) (by rfl) rfl ?_ ?_
          rotate_left 2
          · go_simp
            constructor
            · with_reducible rfl
            · with_reducible rfl
          have hnew := hHeld
          refine hK.out _ _ hnew ?_
          clear hK K
          refine rg_norm (a' := ?_) ?_ ?_
          rotate_left
          · simp only [Act.put, List.setIfInBounds_toArray, List.set_cons_zero, List.set_cons_succ]
            rfl
          clear hHeld
          have hHeld := hnew
          clear hnew
          refine rg_ready [9] (by kernel_rfl) (by simp) ?_
          refine rg_one (i := 9) (N := some 24) (bm 12 1023) rfl rfl (by kernel_rfl) (fun K hK => ?_) rg_nil
          have hbl := SB.boxAt pl 59 HD.out
          refine SB.appRowsStep (d := kAtT w) (ys := [toT x]) HD.out (by rfl) (.tmp 16) (.tmp 23) 37 _ _ rfl Try.underlying37 hi59 rfl (show 0 < 4 by decide) (by decide) rfl rfl (fun _ _ h => h) (lit1T (x := toT x) hbl l1 HC5.out) (by omega) ?_
          rw [HTX.out]
          intro v8 wx7x8x1x9r5 hs
          obtain ⟨A8, c8, e8, _, _⟩ := hs.reads
          subst e8
          clear HD
          have HD := Aside0.mk hs
          have hnew := (hs.pick [2, 4]).boxHide 2
          clear hs hbl
          refine hK.out _ _ hnew ?_
          clear hK K
          refine rg_norm (a' := ?_) ?_ ?_
          rotate_left
          · simp only [Act.put, List.setIfInBounds_toArray, List.set_cons_zero, List.set_cons_succ]
            rfl
          clear hHeld
          have hHeld := hnew
          clear hnew
          refine rg_take (i := 10) (N := some 25) (v := ?_) (a' := ?_) (bm 12 2047) rfl rfl (by kernel_rfl) (fun _ _ _ h => h) hHeld (Or.inl ⟨by rfl, ?_⟩) ?_ ?_
          rotate_left
          · intro w' hw'
            have hbx := SB.boxAt w.heap.size 28 hw'
            have s0 := blk_cell hbx 0
            have s1 := blk_cell hbx 1
            obtain ⟨r0, r1, r2, r3⟩ := HAC.out w' hw'.bel
            go_simp
            with_reducible rfl
          rotate_left
          · simp only [Act.put, List.setIfInBounds_toArray, List.set_cons_zero, List.set_cons_succ]
            rfl
          refine rg_ready [11] (by kernel_rfl) (by simp) ?_
          refine rg_one (i := 11) (N := none) (bm 12 4095) rfl rfl (by kernel_rfl) (fun K hK => ?_) rg_nil
          have x3 := SB.boxAt (w.heap.size + 1 + 1) 39 HD.out
          have s1 := blk_cell x3 1
          have y1 := blk_fro x3 1
          have HE := Aside0.mk ((HD.out.pick [2, 0, 3, 4]).set1 1 (.slice A8 tx.length c8))
          have hnew := (HE.out.pick [0, 3]).boxHide 2
          go_simp
          refine hK.out undef _ hnew ?_
          clear hK K
          refine rg_norm (a' := ?_) ?_ ?_
          rotate_left
          · simp only [Act.put, List.setIfInBounds_toArray, List.set_cons_zero, List.set_cons_succ]
            rfl
          clear hHeld
          have hHeld := hnew
          clear hnew
          refine rg_done (by kernel_rfl) ?_
          go_wp2
          go_roundw
          case rel => exact ⟨i + 1, _, _, by go_num, by omega, ⟨HTN.out.symm⟩, ⟨HE.out.pick [1, 0, 2, 3]⟩⟩
          case measure => simp [intOf]; omega
        exact rg_nil
      exact rg_nil
    · have d1 : decide ((i : Int) < (cs.length : Int)) = false := decide_eq_false (by omega)
      have d2 : decide (i < cs.length) = false := decide_eq_false hlt
      have hil : i = cs.length := by omega
      have hts := HTS.out
      rw [hil, List.take_length] at hts
      have HTS2 := Aside0.mk hts
      clear hil hts
      obtain ⟨B1, d1', e8, hc8, hC8⟩ := HWr.out.reads
      subst e8
      have x3 := SB.boxAt (w.heap.size + 1 + 1) 39 HWr.out
      have s0 := blk_cell x3 0
      have s1 := blk_cell x3 1
      have x2 := SB.boxAt (w.heap.size + 1) 39 HWr.out
      have z0 := blk_cell x2 0
      have z1 := blk_cell x2 1
      have y0 := blk_fro x2 0
      have y1 := blk_fro x2 1
      clear x2 x3
      go_wp2
      have HF := Aside0.mk (((HWr.out.pick [2, 0, 1, 3]).set1 0 (.slice A0 v.length c0)).set1 1 (.slice B1 ts.length d1'))
      have x9 := SB.boxAt (w.heap.size + 1) 39 HF.out
      have f0 := blk_cell x9 0
      have f1 := blk_cell x9 1
      obtain ⟨B2, d2', e9, hc9, hC9⟩ := (HF.out.pick [1]).reads
      injection e9 with e91 e92 e93
      subst e91 e93
      exact bodyPost_ret (v := .agg #[.slice A0 v.length c0, .slice B1 ts.length d1']) (by simp [results, Try.results16, go_sem, f0, f1]) rfl ⟨B1, d1', by rw [← HTS2.out], by rw [← HTS2.out]; exact ⟨Kd.C_below HH.out.hv HF.out.bel, kAtT_up hC9 HF.out.bel, HH.out.lv, hc9⟩, HF.out.bel⟩
end Go.Proofs.Ytagblobimoedcaa.G
