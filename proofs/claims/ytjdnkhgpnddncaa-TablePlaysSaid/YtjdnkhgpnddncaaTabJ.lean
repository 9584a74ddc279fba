/- One thing with globals, and the document's. -/
import Derived.Deep.DeepMust
import Derived.Test.YtjdnkhgpnddncaaTabI
namespace Go.Proofs.Ytjdnkhgpnddncaa.G
open Go.RowKit Go.Proofs.YtjdnkhgpnddncaaW.PrintWords Go.Proofs.YtjdnkhgpnddncaaW.PrintLast Go.Proofs.YtjdnkhgpnddncaaW.PrintMore
set_option linter.unusedVariables false
set_option linter.unusedSimpArgs false
def gDo (l : List S95) (o : S40) : List S95 := if o.f0 = 2 ∨ o.f0 = 3 then (gAdd l o.f3 o.f4 o.f2).2.2 else if o.f0 = 5 ∨ o.f0 = 6 then (gSet l o.f1 o.f2).2 else l
theorem gDo_len {l : List S95} (hl : l.length ≤ 128) (o : S40) : (gDo l o).length ≤ 128 := by
  unfold gDo
  split
  · unfold gAdd
    split
    · exact hl
    · split
      · simp; omega
      · exact hl
  · split
    · unfold gSet
      split
      · split
        · simp; exact hl
        · exact hl
      · exact hl
    · exact hl
set_option maxHeartbeats 8000000 in
set_option maxRecDepth 100000 in
theorem bothGlobs {w0 w : World} {L : List As} {p q : Nat} {gl : List S95} (hS : SB w0 w (GO p gl :: XG q gl :: L)) (hlen : gl.length ≤ 128) (o : S40) (A : Option Addr) (c : Nat) (hI : okI o.f1) (hV : 0 ≤ o.f2 ∧ o.f2 < 18446744073709551616) (hT : 0 ≤ o.f3 ∧ o.f3 < 256) :
    Calls Try.prog 25 #[.pointer (some ⟨p, 0, none⟩), .pointer (some ⟨q, 0, none⟩), .agg #[.int .i64 o.f0, .int .i64 o.f1, .int .u64 o.f2, .int .u8 o.f3, .bool o.f4, .slice A o.f5.length c]] w fun e w' => e = .returned (.bool true) ∧ SB w0 w' (GO p (gDo gl o) :: XG q (gDo gl o) :: L) := by
  have hlen' := gDo_len hlen o
  obtain ⟨wh, at_, v, vt, mu, l⟩ := o
  dsimp only at hI hV hT ⊢
  obtain ⟨b, hb, hbx⟩ := (show ∃ b, b = w.heap.size ∧ SB w0 (w.alloc (.cells #[.int .i64 wh, .int .i64 at_, .int .u64 v, .int .u8 vt, .bool mu, .slice A l.length c] 40)) (Box b #[.int .i64 wh, .int .i64 at_, .int .u64 v, .int .u8 vt, .bool mu, .slice A l.length c] 40 :: GO p gl :: XG q gl :: L) from ⟨_, rfl, hS.box _ 40⟩)
  have HS := Aside0.mk (hbx.pick3 [1, 2, 0])
  have HI := Aside0.mk hI
  have HV := Aside0.mk hV
  have HT := Aside0.mk hT
  have hb' : w.heap.size = b := hb.symm
  obtain ⟨m', hm'⟩ : ∃ m', gDo gl ⟨wh, at_, v, vt, mu, l⟩ = m' := ⟨_, rfl⟩
  rw [hm'] at hlen' ⊢
  obtain ⟨x1, b1, hg⟩ : ∃ x b, gGet m' at_ = (x, b) := ⟨_, _, rfl⟩
  obtain ⟨x2, b2, b3, hty⟩ : ∃ x b k, gType m' at_ = (x, b, k) := ⟨_, _, _, rfl⟩
  have HG := Aside0.mk hg
  have HTY := Aside0.mk hty
  obtain ⟨ws, hws⟩ : ∃ ws, m'.map S95.f2 = ws := ⟨_, rfl⟩
  obtain ⟨n, hn⟩ : ∃ n, ws.length = n := ⟨_, rfl⟩
  have hn128 : n ≤ 128 := by rw [← hn, ← hws, List.length_map]; exact hlen'
  have HW := Aside0.mk hws
  have HN := Aside0.mk hn
  have HLEN := Aside0.mk hlen'
  clear hS hbx hI hV hT hb hg hty hws hn hlen'
  by_cases h23 : wh = 2 ∨ wh = 3
  · have e : m' = (gAdd gl vt mu v).2.2 := by rw [← hm']; unfold gDo; exact if_pos h23
    obtain ⟨r1, r2, l', hadd⟩ : ∃ a b l', gAdd gl vt mu v = (a, b, l') := ⟨_, _, _, rfl⟩
    rw [hadd] at e
    have e : m' = l' := e
    subst e
    have HA := Aside0.mk hadd
    clear hm' hadd
    rcases h23 with rfl | rfl
    · go_enter Try.func25, Try.ntmps25
      go_wp2_with (first
        | (go_at_call 16; go_must ((with_reducible refine (globAddK HS.out hlen vt mu v HT.out HV.out HA.out).mono ?_); rintro e w1 ⟨rfl, hs⟩; have hb1 := (hs.pick3 [2]).blk; have y1 := blk_cell hb1 1; have y2 := blk_cell hb1 2; have y3 := blk_cell hb1 3; have y4 := blk_cell hb1 4; have HS1 := Aside0.mk (hs.pick3 [1, 0, 2]); clear hs hb1))
        | (go_at_call 35; go_must ((with_reducible refine (xgAddK HS1.out hlen vt mu v HT.out HV.out HA.out).mono ?_); rintro e w2 ⟨rfl, hs⟩; have hb1 := (hs.pick3 [2]).blk; have y1 := blk_cell hb1 1; have y2 := blk_cell hb1 2; have y3 := blk_cell hb1 3; have y4 := blk_cell hb1 4; have HS2 := Aside0.mk (hs.pick3 [1, 0, 2]); clear hs hb1))
        | (go_at_call 20; go_must ((with_reducible refine (globGetK HS2.out (by have := HLEN.out; omega) at_ HI.out HG.out).mono ?_); rintro e w11 ⟨rfl, hs⟩; have hb1 := (hs.pick3 [2]).blk; have y1 := blk_cell hb1 1; have y2 := blk_cell hb1 2; have y3 := blk_cell hb1 3; have y4 := blk_cell hb1 4; have HT11 := Aside0.mk (hs.pick3 [1, 0, 2]); clear hs hb1))
        | (go_at_call 37; go_must ((with_reducible refine (xgGet HT11.out (by have := HLEN.out; omega) at_ HG.out).mono ?_); rintro e w12 ⟨rfl, hs⟩; have hb1 := (hs.pick3 [2]).blk; have y1 := blk_cell hb1 1; have y2 := blk_cell hb1 2; have y3 := blk_cell hb1 3; have y4 := blk_cell hb1 4; have HT12 := Aside0.mk (hs.pick3 [1, 0, 2]); clear hs hb1))
        | (go_at_call 18; go_must ((with_reducible refine (globTypeK HT12.out (by have := HLEN.out; omega) at_ HI.out HTY.out).mono ?_); rintro e w13 ⟨rfl, hs⟩; have hb1 := (hs.pick3 [2]).blk; have y1 := blk_cell hb1 1; have y2 := blk_cell hb1 2; have y3 := blk_cell hb1 3; have y4 := blk_cell hb1 4; have HT13 := Aside0.mk (hs.pick3 [1, 0, 2]); clear hs hb1))
        | (go_at_call 38; go_must ((with_reducible refine (xgType HT13.out (by have := HLEN.out; omega) at_ HTY.out).mono ?_); rintro e w14 ⟨rfl, hs⟩; have hb1 := (hs.pick3 [2]).blk; have y1 := blk_cell hb1 1; have y2 := blk_cell hb1 2; have y3 := blk_cell hb1 3; have y4 := blk_cell hb1 4; have HT14 := Aside0.mk (hs.pick3 [1, 0, 2]); clear hs hb1))
        | (go_at_call 22; go_must ((with_reducible refine (globAllK HT14.out (by have := HLEN.out; omega) HW.out).mono ?_); rintro e w15 ⟨v15, rfl, hs⟩; obtain ⟨A15, c15, rfl, hc15, _⟩ := hs.reads; rw [HN.out] at hs hc15 ⊢; have HT15 := Aside0.mk (hs.pick3 [2, 0, 1]); clear hs))
        | (go_at_call 39; go_must ((with_reducible refine (xgAll HT15.out (by have := HLEN.out; omega)).mono ?_); rintro e w16 ⟨v16, rfl, hs⟩; rw [HW.out] at hs; obtain ⟨A16, c16, rfl, hc16, hC16⟩ := hs.reads; obtain ⟨Ab, cb, eb, _, hC15⟩ := (hs.pick3 [2]).reads; injection eb with eb1 eb2 eb3; clear eb2 eb3; subst eb1; rw [HN.out] at hs hc16 hC16 hC15 ⊢; have HC16 := Aside0.mk hC16; have HC15 := Aside0.mk hC15; have HT16 := Aside0.mk (hs.pick5 [3, 1]); clear hs hC16 hC15))
        | (go_at_call 21; go_must ((with_reducible refine (frWords HT16.out A15 A16 n c15 c16 ws HN.out HC15.out hc15 HC16.out hc16 (by omega)).mono ?_); rintro e w17 ⟨rfl, hs⟩; have HT17 := Aside0.mk hs; clear hs)))
      go_ret
      exact ⟨rfl, HT17.out⟩
    · go_enter Try.func25, Try.ntmps25
      go_wp2_with (first
        | (go_at_call 16; go_must ((with_reducible refine (globAddK HS.out hlen vt mu v HT.out HV.out HA.out).mono ?_); rintro e w1 ⟨rfl, hs⟩; have hb1 := (hs.pick3 [2]).blk; have y1 := blk_cell hb1 1; have y2 := blk_cell hb1 2; have y3 := blk_cell hb1 3; have y4 := blk_cell hb1 4; have HS1 := Aside0.mk (hs.pick3 [1, 0, 2]); clear hs hb1))
        | (go_at_call 35; go_must ((with_reducible refine (xgAddK HS1.out hlen vt mu v HT.out HV.out HA.out).mono ?_); rintro e w2 ⟨rfl, hs⟩; have hb1 := (hs.pick3 [2]).blk; have y1 := blk_cell hb1 1; have y2 := blk_cell hb1 2; have y3 := blk_cell hb1 3; have y4 := blk_cell hb1 4; have HS2 := Aside0.mk (hs.pick3 [1, 0, 2]); clear hs hb1))
        | (go_at_call 20; go_must ((with_reducible refine (globGetK HS2.out (by have := HLEN.out; omega) at_ HI.out HG.out).mono ?_); rintro e w11 ⟨rfl, hs⟩; have hb1 := (hs.pick3 [2]).blk; have y1 := blk_cell hb1 1; have y2 := blk_cell hb1 2; have y3 := blk_cell hb1 3; have y4 := blk_cell hb1 4; have HT11 := Aside0.mk (hs.pick3 [1, 0, 2]); clear hs hb1))
        | (go_at_call 37; go_must ((with_reducible refine (xgGet HT11.out (by have := HLEN.out; omega) at_ HG.out).mono ?_); rintro e w12 ⟨rfl, hs⟩; have hb1 := (hs.pick3 [2]).blk; have y1 := blk_cell hb1 1; have y2 := blk_cell hb1 2; have y3 := blk_cell hb1 3; have y4 := blk_cell hb1 4; have HT12 := Aside0.mk (hs.pick3 [1, 0, 2]); clear hs hb1))
        | (go_at_call 18; go_must ((with_reducible refine (globTypeK HT12.out (by have := HLEN.out; omega) at_ HI.out HTY.out).mono ?_); rintro e w13 ⟨rfl, hs⟩; have hb1 := (hs.pick3 [2]).blk; have y1 := blk_cell hb1 1; have y2 := blk_cell hb1 2; have y3 := blk_cell hb1 3; have y4 := blk_cell hb1 4; have HT13 := Aside0.mk (hs.pick3 [1, 0, 2]); clear hs hb1))
        | (go_at_call 38; go_must ((with_reducible refine (xgType HT13.out (by have := HLEN.out; omega) at_ HTY.out).mono ?_); rintro e w14 ⟨rfl, hs⟩; have hb1 := (hs.pick3 [2]).blk; have y1 := blk_cell hb1 1; have y2 := blk_cell hb1 2; have y3 := blk_cell hb1 3; have y4 := blk_cell hb1 4; have HT14 := Aside0.mk (hs.pick3 [1, 0, 2]); clear hs hb1))
        | (go_at_call 22; go_must ((with_reducible refine (globAllK HT14.out (by have := HLEN.out; omega) HW.out).mono ?_); rintro e w15 ⟨v15, rfl, hs⟩; obtain ⟨A15, c15, rfl, hc15, _⟩ := hs.reads; rw [HN.out] at hs hc15 ⊢; have HT15 := Aside0.mk (hs.pick3 [2, 0, 1]); clear hs))
        | (go_at_call 39; go_must ((with_reducible refine (xgAll HT15.out (by have := HLEN.out; omega)).mono ?_); rintro e w16 ⟨v16, rfl, hs⟩; rw [HW.out] at hs; obtain ⟨A16, c16, rfl, hc16, hC16⟩ := hs.reads; obtain ⟨Ab, cb, eb, _, hC15⟩ := (hs.pick3 [2]).reads; injection eb with eb1 eb2 eb3; clear eb2 eb3; subst eb1; rw [HN.out] at hs hc16 hC16 hC15 ⊢; have HC16 := Aside0.mk hC16; have HC15 := Aside0.mk hC15; have HT16 := Aside0.mk (hs.pick5 [3, 1]); clear hs hC16 hC15))
        | (go_at_call 21; go_must ((with_reducible refine (frWords HT16.out A15 A16 n c15 c16 ws HN.out HC15.out hc15 HC16.out hc16 (by omega)).mono ?_); rintro e w17 ⟨rfl, hs⟩; have HT17 := Aside0.mk hs; clear hs)))
      go_ret
      exact ⟨rfl, HT17.out⟩
  by_cases h56 : wh = 5 ∨ wh = 6
  · have e : m' = (gSet gl at_ v).2 := by rw [← hm']; unfold gDo; rw [if_neg h23, if_pos h56]
    obtain ⟨r1, l', hset⟩ : ∃ a l', gSet gl at_ v = (a, l') := ⟨_, _, rfl⟩
    rw [hset] at e
    have e : m' = l' := e
    subst e
    have HA := Aside0.mk hset
    clear hm' hset h23
    rcases h56 with rfl | rfl
    · go_enter Try.func25, Try.ntmps25
      go_wp2
      have HDF := Aside0.mk HS.out.drew
      have hbd : _ = some (Obj.cells #[.int .i64 5, .int .i64 at_, .int .u64 v, .int .u8 vt, .bool mu, .slice A l.length c] 40 (0, 0)) := (HDF.out.pick3 [2]).blk
      refine rg_startL (n := 14) (S := fun w' => w'.heap[b]? = some (.cells #[.int .i64 5, .int .i64 at_, .int .u64 v, .int .u8 vt, .bool mu, .slice A l.length c] 40 (0, 0))) (bm 14 0) (by kernel_rfl) rfl (by kernel_rfl) (hbd) (fun wd hwd hHeld => ?_)
      refine rg_take (i := 0) (N := some 60) (v := ?_) (a' := ?_) (bm 14 1) rfl rfl (by kernel_rfl) (fun _ _ _ h => h) hHeld (Or.inl ⟨by rfl, ?_⟩) ?_ ?_
      rotate_left
      · intro w' hw'
        have s1 := blk_cell hw' 1
        have s2 := blk_cell hw' 2
        go_simp
        with_reducible rfl
      rotate_left
      · simp only [Act.put, List.setIfInBounds_toArray, List.set_cons_zero, List.set_cons_succ]
        rfl
      refine rg_take (i := 1) (N := some 61) (v := ?_) (a' := ?_) (bm 14 3) rfl rfl (by kernel_rfl) (fun _ _ _ h => h) hHeld (Or.inl ⟨by rfl, ?_⟩) ?_ ?_
      rotate_left
      · intro w' hw'
        have s1 := blk_cell hw' 1
        have s2 := blk_cell hw' 2
        go_simp
        with_reducible rfl
      rotate_left
      · simp only [Act.put, List.setIfInBounds_toArray, List.set_cons_zero, List.set_cons_succ]
        rfl
      refine rg_take (i := 2) (N := some 62) (v := ?_) (a' := ?_) (bm 14 7) rfl rfl (by kernel_rfl) (fun _ _ _ h => h) hHeld (Or.inl ⟨by rfl, ?_⟩) ?_ ?_
      rotate_left
      · intro w' hw'
        have s1 := blk_cell hw' 1
        have s2 := blk_cell hw' 2
        go_simp
        with_reducible rfl
      rotate_left
      · simp only [Act.put, List.setIfInBounds_toArray, List.set_cons_zero, List.set_cons_succ]
        rfl
      refine rg_take (i := 3) (N := some 63) (v := ?_) (a' := ?_) (bm 14 15) rfl rfl (by kernel_rfl) (fun _ _ _ h => h) hHeld (Or.inl ⟨by rfl, ?_⟩) ?_ ?_
      rotate_left
      · intro w' hw'
        have s1 := blk_cell hw' 1
        have s2 := blk_cell hw' 2
        go_simp
        with_reducible rfl
      rotate_left
      · simp only [Act.put, List.setIfInBounds_toArray, List.set_cons_zero, List.set_cons_succ]
        rfl
      refine rg_take (i := 4) (N := some 64) (v := ?_) (a' := ?_) (bm 14 31) rfl rfl (by kernel_rfl) (fun _ _ _ h => h) hHeld (Or.inl ⟨by rfl, ?_⟩) ?_ ?_
      rotate_left
      · intro w' hw'
        have s1 := blk_cell hw' 1
        have s2 := blk_cell hw' 2
        go_simp
        with_reducible rfl
      rotate_left
      · simp only [Act.put, List.setIfInBounds_toArray, List.set_cons_zero, List.set_cons_succ]
        rfl
      refine rg_take (i := 6) (N := some 66) (v := ?_) (a' := ?_) (bm 14 95) rfl rfl (by kernel_rfl) (fun _ _ _ h => h) hHeld (Or.inl ⟨by rfl, ?_⟩) ?_ ?_
      rotate_left
      · intro w' hw'
        have s1 := blk_cell hw' 1
        have s2 := blk_cell hw' 2
        go_simp
        with_reducible rfl
      rotate_left
      · simp only [Act.put, List.setIfInBounds_toArray, List.set_cons_zero, List.set_cons_succ]
        rfl
      refine rg_take (i := 7) (N := some 67) (v := ?_) (a' := ?_) (bm 14 223) rfl rfl (by kernel_rfl) (fun _ _ _ h => h) hHeld (Or.inl ⟨by rfl, ?_⟩) ?_ ?_
      rotate_left
      · intro w' hw'
        have s1 := blk_cell hw' 1
        have s2 := blk_cell hw' 2
        go_simp
        with_reducible rfl
      rotate_left
      · simp only [Act.put, List.setIfInBounds_toArray, List.set_cons_zero, List.set_cons_succ]
        rfl
      refine rg_take (i := 8) (N := some 68) (v := ?_) (a' := ?_) (bm 14 479) rfl rfl (by kernel_rfl) (fun _ _ _ h => h) hHeld (Or.inl ⟨by rfl, ?_⟩) ?_ ?_
      rotate_left
      · intro w' hw'
        have s1 := blk_cell hw' 1
        have s2 := blk_cell hw' 2
        go_simp
        with_reducible rfl
      rotate_left
      · simp only [Act.put, List.setIfInBounds_toArray, List.set_cons_zero, List.set_cons_succ]
        rfl
      refine rg_take (i := 9) (N := some 69) (v := ?_) (a' := ?_) (bm 14 991) rfl rfl (by kernel_rfl) (fun _ _ _ h => h) hHeld (Or.inl ⟨by rfl, ?_⟩) ?_ ?_
      rotate_left
      · intro w' hw'
        have s1 := blk_cell hw' 1
        have s2 := blk_cell hw' 2
        go_simp
        with_reducible rfl
      rotate_left
      · simp only [Act.put, List.setIfInBounds_toArray, List.set_cons_zero, List.set_cons_succ]
        rfl
      refine rg_take (i := 10) (N := some 70) (v := ?_) (a' := ?_) (bm 14 2015) rfl rfl (by kernel_rfl) (fun _ _ _ h => h) hHeld (Or.inl ⟨by rfl, ?_⟩) ?_ ?_
      rotate_left
      · intro w' hw'
        have s1 := blk_cell hw' 1
        have s2 := blk_cell hw' 2
        go_simp
        with_reducible rfl
      rotate_left
      · simp only [Act.put, List.setIfInBounds_toArray, List.set_cons_zero, List.set_cons_succ]
        rfl
      refine rg_ready [5] (by kernel_rfl) (by simp) ?_
      refine rg_one (i := 5) (N := some 65) (bm 14 2047) rfl rfl (by kernel_rfl) (fun K hK => ?_) rg_nil
      have HD := Aside0.mk (hwd.out ▸ HDF.out)
      go_simp
      go_at_call 19
      with_reducible refine (globSetK HD.out (by omega) at_ v HI.out HV.out HA.out).mono ?_
      rintro e wx5r10 ⟨rfl, hs⟩
      have HD1 := Aside0.mk (hs.pick3 [1, 0, 2])
      have hnew := (hs.pick3 [2]).blk
      clear hs
      go_wp2_with fail
      refine hK.out _ _ hnew ?_
      clear hK K
      refine rg_norm (a' := ?_) ?_ ?_
      rotate_left
      · simp only [Act.put, List.setIfInBounds_toArray, List.set_cons_zero, List.set_cons_succ]
        rfl
      clear hHeld
      have hHeld := hnew
      clear hnew
      refine rg_ready [11] (by kernel_rfl) (by simp) ?_
      refine rg_one (i := 11) (N := some 71) (bm 14 4095) rfl rfl (by kernel_rfl) (fun K hK => ?_) rg_nil
      go_simp
      go_at_call 36
      with_reducible refine (xgSetK HD1.out (by omega) at_ v HV.out HA.out).mono ?_
      rintro e wx5x11r10 ⟨rfl, hs⟩
      have HD2 := Aside0.mk (hs.pick3 [1, 0, 2])
      have hnew := (hs.pick3 [2]).blk
      clear hs
      go_wp2_with fail
      refine hK.out _ _ hnew ?_
      clear hK K
      refine rg_norm (a' := ?_) ?_ ?_
      rotate_left
      · simp only [Act.put, List.setIfInBounds_toArray, List.set_cons_zero, List.set_cons_succ]
        rfl
      clear hHeld
      have hHeld := hnew
      clear hnew
      refine rg_take (i := 12) (N := some 72) (v := ?_) (a' := ?_) (bm 14 8191) rfl rfl (by kernel_rfl) (fun _ _ _ h => h) hHeld (Or.inl ⟨by rfl, ?_⟩) ?_ ?_
      rotate_left
      · intro w' hw'
        have s1 := blk_cell hw' 1
        have s2 := blk_cell hw' 2
        go_simp
        with_reducible rfl
      rotate_left
      · simp only [Act.put, List.setIfInBounds_toArray, List.set_cons_zero, List.set_cons_succ]
        rfl
      refine rg_take (i := 13) (N := some 7) (v := ?_) (a' := ?_) (bm 14 16383) rfl rfl (by kernel_rfl) (fun _ _ _ h => h) hHeld (Or.inl ⟨by rfl, ?_⟩) ?_ ?_
      rotate_left
      · intro w' hw'
        have s1 := blk_cell hw' 1
        have s2 := blk_cell hw' 2
        go_simp
        with_reducible rfl
      rotate_left
      · simp only [Act.put, List.setIfInBounds_toArray, List.set_cons_zero, List.set_cons_succ]
        rfl
      refine rg_done (by kernel_rfl) ?_
      have y1 := blk_cell (HD2.out.pick3 [2]).blk 1
      go_wp2_with (first
        | (go_at_call 20; go_must ((with_reducible refine (globGetK HD2.out (by have := HLEN.out; omega) at_ HI.out HG.out).mono ?_); rintro e w11 ⟨rfl, hs⟩; have hb1 := (hs.pick3 [2]).blk; have y1 := blk_cell hb1 1; have y2 := blk_cell hb1 2; have y3 := blk_cell hb1 3; have y4 := blk_cell hb1 4; have HT11 := Aside0.mk (hs.pick3 [1, 0, 2]); clear hs hb1))
        | (go_at_call 37; go_must ((with_reducible refine (xgGet HT11.out (by have := HLEN.out; omega) at_ HG.out).mono ?_); rintro e w12 ⟨rfl, hs⟩; have hb1 := (hs.pick3 [2]).blk; have y1 := blk_cell hb1 1; have y2 := blk_cell hb1 2; have y3 := blk_cell hb1 3; have y4 := blk_cell hb1 4; have HT12 := Aside0.mk (hs.pick3 [1, 0, 2]); clear hs hb1))
        | (go_at_call 18; go_must ((with_reducible refine (globTypeK HT12.out (by have := HLEN.out; omega) at_ HI.out HTY.out).mono ?_); rintro e w13 ⟨rfl, hs⟩; have hb1 := (hs.pick3 [2]).blk; have y1 := blk_cell hb1 1; have y2 := blk_cell hb1 2; have y3 := blk_cell hb1 3; have y4 := blk_cell hb1 4; have HT13 := Aside0.mk (hs.pick3 [1, 0, 2]); clear hs hb1))
        | (go_at_call 38; go_must ((with_reducible refine (xgType HT13.out (by have := HLEN.out; omega) at_ HTY.out).mono ?_); rintro e w14 ⟨rfl, hs⟩; have hb1 := (hs.pick3 [2]).blk; have y1 := blk_cell hb1 1; have y2 := blk_cell hb1 2; have y3 := blk_cell hb1 3; have y4 := blk_cell hb1 4; have HT14 := Aside0.mk (hs.pick3 [1, 0, 2]); clear hs hb1))
        | (go_at_call 22; go_must ((with_reducible refine (globAllK HT14.out (by have := HLEN.out; omega) HW.out).mono ?_); rintro e w15 ⟨v15, rfl, hs⟩; obtain ⟨A15, c15, rfl, hc15, _⟩ := hs.reads; rw [HN.out] at hs hc15 ⊢; have HT15 := Aside0.mk (hs.pick3 [2, 0, 1]); clear hs))
        | (go_at_call 39; go_must ((with_reducible refine (xgAll HT15.out (by have := HLEN.out; omega)).mono ?_); rintro e w16 ⟨v16, rfl, hs⟩; rw [HW.out] at hs; obtain ⟨A16, c16, rfl, hc16, hC16⟩ := hs.reads; obtain ⟨Ab, cb, eb, _, hC15⟩ := (hs.pick3 [2]).reads; injection eb with eb1 eb2 eb3; clear eb2 eb3; subst eb1; rw [HN.out] at hs hc16 hC16 hC15 ⊢; have HC16 := Aside0.mk hC16; have HC15 := Aside0.mk hC15; have HT16 := Aside0.mk (hs.pick5 [3, 1]); clear hs hC16 hC15))
        | (go_at_call 21; go_must ((with_reducible refine (frWords HT16.out A15 A16 n c15 c16 ws HN.out HC15.out hc15 HC16.out hc16 (by omega)).mono ?_); rintro e w17 ⟨rfl, hs⟩; have HT17 := Aside0.mk hs; clear hs)))
      go_ret
      exact ⟨rfl, HT17.out⟩
    · go_enter Try.func25, Try.ntmps25
      go_wp2
      have HDF := Aside0.mk HS.out.drew
      have hbd : _ = some (Obj.cells #[.int .i64 6, .int .i64 at_, .int .u64 v, .int .u8 vt, .bool mu, .slice A l.length c] 40 (0, 0)) := (HDF.out.pick3 [2]).blk
      refine rg_startL (n := 14) (S := fun w' => w'.heap[b]? = some (.cells #[.int .i64 6, .int .i64 at_, .int .u64 v, .int .u8 vt, .bool mu, .slice A l.length c] 40 (0, 0))) (bm 14 0) (by kernel_rfl) rfl (by kernel_rfl) (hbd) (fun wd hwd hHeld => ?_)
      refine rg_take (i := 0) (N := some 60) (v := ?_) (a' := ?_) (bm 14 1) rfl rfl (by kernel_rfl) (fun _ _ _ h => h) hHeld (Or.inl ⟨by rfl, ?_⟩) ?_ ?_
      rotate_left
      · intro w' hw'
        have s1 := blk_cell hw' 1
        have s2 := blk_cell hw' 2
        go_simp
        with_reducible rfl
      rotate_left
      · simp only [Act.put, List.setIfInBounds_toArray, List.set_cons_zero, List.set_cons_succ]
        rfl
      refine rg_take (i := 1) (N := some 61) (v := ?_) (a' := ?_) (bm 14 3) rfl rfl (by kernel_rfl) (fun _ _ _ h => h) hHeld (Or.inl ⟨by rfl, ?_⟩) ?_ ?_
      rotate_left
      · intro w' hw'
        have s1 := blk_cell hw' 1
        have s2 := blk_cell hw' 2
        go_simp
        with_reducible rfl
      rotate_left
      · simp only [Act.put, List.setIfInBounds_toArray, List.set_cons_zero, List.set_cons_succ]
        rfl
      refine rg_take (i := 2) (N := some 62) (v := ?_) (a' := ?_) (bm 14 7) rfl rfl (by kernel_rfl) (fun _ _ _ h => h) hHeld (Or.inl ⟨by rfl, ?_⟩) ?_ ?_
      rotate_left
      · intro w' hw'
        have s1 := blk_cell hw' 1
        have s2 := blk_cell hw' 2
        go_simp
        with_reducible rfl
      rotate_left
      · simp only [Act.put, List.setIfInBounds_toArray, List.set_cons_zero, List.set_cons_succ]
        rfl
      refine rg_take (i := 3) (N := some 63) (v := ?_) (a' := ?_) (bm 14 15) rfl rfl (by kernel_rfl) (fun _ _ _ h => h) hHeld (Or.inl ⟨by rfl, ?_⟩) ?_ ?_
      rotate_left
      · intro w' hw'
        have s1 := blk_cell hw' 1
        have s2 := blk_cell hw' 2
        go_simp
        with_reducible rfl
      rotate_left
      · simp only [Act.put, List.setIfInBounds_toArray, List.set_cons_zero, List.set_cons_succ]
        rfl
      refine rg_take (i := 4) (N := some 64) (v := ?_) (a' := ?_) (bm 14 31) rfl rfl (by kernel_rfl) (fun _ _ _ h => h) hHeld (Or.inl ⟨by rfl, ?_⟩) ?_ ?_
      rotate_left
      · intro w' hw'
        have s1 := blk_cell hw' 1
        have s2 := blk_cell hw' 2
        go_simp
        with_reducible rfl
      rotate_left
      · simp only [Act.put, List.setIfInBounds_toArray, List.set_cons_zero, List.set_cons_succ]
        rfl
      refine rg_take (i := 6) (N := some 66) (v := ?_) (a' := ?_) (bm 14 95) rfl rfl (by kernel_rfl) (fun _ _ _ h => h) hHeld (Or.inl ⟨by rfl, ?_⟩) ?_ ?_
      rotate_left
      · intro w' hw'
        have s1 := blk_cell hw' 1
        have s2 := blk_cell hw' 2
        go_simp
        with_reducible rfl
      rotate_left
      · simp only [Act.put, List.setIfInBounds_toArray, List.set_cons_zero, List.set_cons_succ]
        rfl
      refine rg_take (i := 7) (N := some 67) (v := ?_) (a' := ?_) (bm 14 223) rfl rfl (by kernel_rfl) (fun _ _ _ h => h) hHeld (Or.inl ⟨by rfl, ?_⟩) ?_ ?_
      rotate_left
      · intro w' hw'
        have s1 := blk_cell hw' 1
        have s2 := blk_cell hw' 2
        go_simp
        with_reducible rfl
      rotate_left
      · simp only [Act.put, List.setIfInBounds_toArray, List.set_cons_zero, List.set_cons_succ]
        rfl
      refine rg_take (i := 8) (N := some 68) (v := ?_) (a' := ?_) (bm 14 479) rfl rfl (by kernel_rfl) (fun _ _ _ h => h) hHeld (Or.inl ⟨by rfl, ?_⟩) ?_ ?_
      rotate_left
      · intro w' hw'
        have s1 := blk_cell hw' 1
        have s2 := blk_cell hw' 2
        go_simp
        with_reducible rfl
      rotate_left
      · simp only [Act.put, List.setIfInBounds_toArray, List.set_cons_zero, List.set_cons_succ]
        rfl
      refine rg_take (i := 9) (N := some 69) (v := ?_) (a' := ?_) (bm 14 991) rfl rfl (by kernel_rfl) (fun _ _ _ h => h) hHeld (Or.inl ⟨by rfl, ?_⟩) ?_ ?_
      rotate_left
      · intro w' hw'
        have s1 := blk_cell hw' 1
        have s2 := blk_cell hw' 2
        go_simp
        with_reducible rfl
      rotate_left
      · simp only [Act.put, List.setIfInBounds_toArray, List.set_cons_zero, List.set_cons_succ]
        rfl
      refine rg_take (i := 10) (N := some 70) (v := ?_) (a' := ?_) (bm 14 2015) rfl rfl (by kernel_rfl) (fun _ _ _ h => h) hHeld (Or.inl ⟨by rfl, ?_⟩) ?_ ?_
      rotate_left
      · intro w' hw'
        have s1 := blk_cell hw' 1
        have s2 := blk_cell hw' 2
        go_simp
        with_reducible rfl
      rotate_left
      · simp only [Act.put, List.setIfInBounds_toArray, List.set_cons_zero, List.set_cons_succ]
        rfl
      refine rg_ready [5] (by kernel_rfl) (by simp) ?_
      refine rg_one (i := 5) (N := some 65) (bm 14 2047) rfl rfl (by kernel_rfl) (fun K hK => ?_) rg_nil
      have HD := Aside0.mk (hwd.out ▸ HDF.out)
      go_simp
      go_at_call 19
      with_reducible refine (globSetK HD.out (by omega) at_ v HI.out HV.out HA.out).mono ?_
      rintro e wx5r10 ⟨rfl, hs⟩
      have HD1 := Aside0.mk (hs.pick3 [1, 0, 2])
      have hnew := (hs.pick3 [2]).blk
      clear hs
      go_wp2_with fail
      refine hK.out _ _ hnew ?_
      clear hK K
      refine rg_norm (a' := ?_) ?_ ?_
      rotate_left
      · simp only [Act.put, List.setIfInBounds_toArray, List.set_cons_zero, List.set_cons_succ]
        rfl
      clear hHeld
      have hHeld := hnew
      clear hnew
      refine rg_ready [11] (by kernel_rfl) (by simp) ?_
      refine rg_one (i := 11) (N := some 71) (bm 14 4095) rfl rfl (by kernel_rfl) (fun K hK => ?_) rg_nil
      go_simp
      go_at_call 36
      with_reducible refine (xgSetK HD1.out (by omega) at_ v HV.out HA.out).mono ?_
      rintro e wx5x11r10 ⟨rfl, hs⟩
      have HD2 := Aside0.mk (hs.pick3 [1, 0, 2])
      have hnew := (hs.pick3 [2]).blk
      clear hs
      go_wp2_with fail
      refine hK.out _ _ hnew ?_
      clear hK K
      refine rg_norm (a' := ?_) ?_ ?_
      rotate_left
      · simp only [Act.put, List.setIfInBounds_toArray, List.set_cons_zero, List.set_cons_succ]
        rfl
      clear hHeld
      have hHeld := hnew
      clear hnew
      refine rg_take (i := 12) (N := some 72) (v := ?_) (a' := ?_) (bm 14 8191) rfl rfl (by kernel_rfl) (fun _ _ _ h => h) hHeld (Or.inl ⟨by rfl, ?_⟩) ?_ ?_
      rotate_left
      · intro w' hw'
        have s1 := blk_cell hw' 1
        have s2 := blk_cell hw' 2
        go_simp
        with_reducible rfl
      rotate_left
      · simp only [Act.put, List.setIfInBounds_toArray, List.set_cons_zero, List.set_cons_succ]
        rfl
      refine rg_take (i := 13) (N := some 7) (v := ?_) (a' := ?_) (bm 14 16383) rfl rfl (by kernel_rfl) (fun _ _ _ h => h) hHeld (Or.inl ⟨by rfl, ?_⟩) ?_ ?_
      rotate_left
      · intro w' hw'
        have s1 := blk_cell hw' 1
        have s2 := blk_cell hw' 2
        go_simp
        with_reducible rfl
      rotate_left
      · simp only [Act.put, List.setIfInBounds_toArray, List.set_cons_zero, List.set_cons_succ]
        rfl
      refine rg_done (by kernel_rfl) ?_
      have y1 := blk_cell (HD2.out.pick3 [2]).blk 1
      go_wp2_with (first
        | (go_at_call 20; go_must ((with_reducible refine (globGetK HD2.out (by have := HLEN.out; omega) at_ HI.out HG.out).mono ?_); rintro e w11 ⟨rfl, hs⟩; have hb1 := (hs.pick3 [2]).blk; have y1 := blk_cell hb1 1; have y2 := blk_cell hb1 2; have y3 := blk_cell hb1 3; have y4 := blk_cell hb1 4; have HT11 := Aside0.mk (hs.pick3 [1, 0, 2]); clear hs hb1))
        | (go_at_call 37; go_must ((with_reducible refine (xgGet HT11.out (by have := HLEN.out; omega) at_ HG.out).mono ?_); rintro e w12 ⟨rfl, hs⟩; have hb1 := (hs.pick3 [2]).blk; have y1 := blk_cell hb1 1; have y2 := blk_cell hb1 2; have y3 := blk_cell hb1 3; have y4 := blk_cell hb1 4; have HT12 := Aside0.mk (hs.pick3 [1, 0, 2]); clear hs hb1))
        | (go_at_call 18; go_must ((with_reducible refine (globTypeK HT12.out (by have := HLEN.out; omega) at_ HI.out HTY.out).mono ?_); rintro e w13 ⟨rfl, hs⟩; have hb1 := (hs.pick3 [2]).blk; have y1 := blk_cell hb1 1; have y2 := blk_cell hb1 2; have y3 := blk_cell hb1 3; have y4 := blk_cell hb1 4; have HT13 := Aside0.mk (hs.pick3 [1, 0, 2]); clear hs hb1))
        | (go_at_call 38; go_must ((with_reducible refine (xgType HT13.out (by have := HLEN.out; omega) at_ HTY.out).mono ?_); rintro e w14 ⟨rfl, hs⟩; have hb1 := (hs.pick3 [2]).blk; have y1 := blk_cell hb1 1; have y2 := blk_cell hb1 2; have y3 := blk_cell hb1 3; have y4 := blk_cell hb1 4; have HT14 := Aside0.mk (hs.pick3 [1, 0, 2]); clear hs hb1))
        | (go_at_call 22; go_must ((with_reducible refine (globAllK HT14.out (by have := HLEN.out; omega) HW.out).mono ?_); rintro e w15 ⟨v15, rfl, hs⟩; obtain ⟨A15, c15, rfl, hc15, _⟩ := hs.reads; rw [HN.out] at hs hc15 ⊢; have HT15 := Aside0.mk (hs.pick3 [2, 0, 1]); clear hs))
        | (go_at_call 39; go_must ((with_reducible refine (xgAll HT15.out (by have := HLEN.out; omega)).mono ?_); rintro e w16 ⟨v16, rfl, hs⟩; rw [HW.out] at hs; obtain ⟨A16, c16, rfl, hc16, hC16⟩ := hs.reads; obtain ⟨Ab, cb, eb, _, hC15⟩ := (hs.pick3 [2]).reads; injection eb with eb1 eb2 eb3; clear eb2 eb3; subst eb1; rw [HN.out] at hs hc16 hC16 hC15 ⊢; have HC16 := Aside0.mk hC16; have HC15 := Aside0.mk hC15; have HT16 := Aside0.mk (hs.pick5 [3, 1]); clear hs hC16 hC15))
        | (go_at_call 21; go_must ((with_reducible refine (frWords HT16.out A15 A16 n c15 c16 ws HN.out HC15.out hc15 HC16.out hc16 (by omega)).mono ?_); rintro e w17 ⟨rfl, hs⟩; have HT17 := Aside0.mk hs; clear hs)))
      go_ret
      exact ⟨rfl, HT17.out⟩
  · have e : m' = gl := by rw [← hm']; unfold gDo; rw [if_neg h23, if_neg h56]
    subst e
    simp only [not_or] at h23 h56
    have b2' : (wh == 2) = false := beq_eq_false_iff_ne.2 h23.1
    have b3' : (wh == 3) = false := beq_eq_false_iff_ne.2 h23.2
    have b5' : (wh == 5) = false := beq_eq_false_iff_ne.2 h56.1
    have b6' : (wh == 6) = false := beq_eq_false_iff_ne.2 h56.2
    clear hm' h23 h56
    go_enter Try.func25, Try.ntmps25
    go_wp2_with (first
      | (go_at_call 20; go_must ((with_reducible refine (globGetK HS.out (by have := HLEN.out; omega) at_ HI.out HG.out).mono ?_); rintro e w11 ⟨rfl, hs⟩; have hb1 := (hs.pick3 [2]).blk; have y1 := blk_cell hb1 1; have y2 := blk_cell hb1 2; have y3 := blk_cell hb1 3; have y4 := blk_cell hb1 4; have HT11 := Aside0.mk (hs.pick3 [1, 0, 2]); clear hs hb1))
      | (go_at_call 37; go_must ((with_reducible refine (xgGet HT11.out (by have := HLEN.out; omega) at_ HG.out).mono ?_); rintro e w12 ⟨rfl, hs⟩; have hb1 := (hs.pick3 [2]).blk; have y1 := blk_cell hb1 1; have y2 := blk_cell hb1 2; have y3 := blk_cell hb1 3; have y4 := blk_cell hb1 4; have HT12 := Aside0.mk (hs.pick3 [1, 0, 2]); clear hs hb1))
      | (go_at_call 18; go_must ((with_reducible refine (globTypeK HT12.out (by have := HLEN.out; omega) at_ HI.out HTY.out).mono ?_); rintro e w13 ⟨rfl, hs⟩; have hb1 := (hs.pick3 [2]).blk; have y1 := blk_cell hb1 1; have y2 := blk_cell hb1 2; have y3 := blk_cell hb1 3; have y4 := blk_cell hb1 4; have HT13 := Aside0.mk (hs.pick3 [1, 0, 2]); clear hs hb1))
      | (go_at_call 38; go_must ((with_reducible refine (xgType HT13.out (by have := HLEN.out; omega) at_ HTY.out).mono ?_); rintro e w14 ⟨rfl, hs⟩; have hb1 := (hs.pick3 [2]).blk; have y1 := blk_cell hb1 1; have y2 := blk_cell hb1 2; have y3 := blk_cell hb1 3; have y4 := blk_cell hb1 4; have HT14 := Aside0.mk (hs.pick3 [1, 0, 2]); clear hs hb1))
      | (go_at_call 22; go_must ((with_reducible refine (globAllK HT14.out (by have := HLEN.out; omega) HW.out).mono ?_); rintro e w15 ⟨v15, rfl, hs⟩; obtain ⟨A15, c15, rfl, hc15, _⟩ := hs.reads; rw [HN.out] at hs hc15 ⊢; have HT15 := Aside0.mk (hs.pick3 [2, 0, 1]); clear hs))
      | (go_at_call 39; go_must ((with_reducible refine (xgAll HT15.out (by have := HLEN.out; omega)).mono ?_); rintro e w16 ⟨v16, rfl, hs⟩; rw [HW.out] at hs; obtain ⟨A16, c16, rfl, hc16, hC16⟩ := hs.reads; obtain ⟨Ab, cb, eb, _, hC15⟩ := (hs.pick3 [2]).reads; injection eb with eb1 eb2 eb3; clear eb2 eb3; subst eb1; rw [HN.out] at hs hc16 hC16 hC15 ⊢; have HC16 := Aside0.mk hC16; have HC15 := Aside0.mk hC15; have HT16 := Aside0.mk (hs.pick5 [3, 1]); clear hs hC16 hC15))
      | (go_at_call 21; go_must ((with_reducible refine (frWords HT16.out A15 A16 n c15 c16 ws HN.out HC15.out hc15 HC16.out hc16 (by omega)).mono ?_); rintro e w17 ⟨rfl, hs⟩; have HT17 := Aside0.mk hs; clear hs)))
    go_ret
    exact ⟨rfl, HT17.out⟩
end Go.Proofs.Ytjdnkhgpnddncaa.G
