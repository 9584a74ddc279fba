/- Package memory: Grow, Limits, and the nil receivers. -/
import Derived.Test.YtffoolhfjomhhaaDoorMemH
import Derived.Test.YtffoolhfjomhhaaDoorMemS
namespace Go.Proofs.YtffoolhfjomhhaaDoor.G
open Go.RowKit Go.Proofs.YtffoolhfjomhhaaDoorW.PrintWords Go.Proofs.YtffoolhfjomhhaaDoorW.PrintLast Go.Proofs.YtffoolhfjomhhaaDoorW.PrintMore
attribute [local go_sem] max2_int min2_int max_two min_two max_three min_three max_four min_four   -- for this text's walks alone
set_option linter.unusedVariables false
set_option linter.unusedSimpArgs false
/-- A memory that New made and Grow grew: its pages. -/
structure Paged (m : Mem) (pg : Nat) : Prop where
  oct : Oct m.b
  len : m.b.length = 65536 * pg
  le4 : pg ≤ 4
  hi0 : m.has = true → 0 ≤ m.hi ∧ m.hi ≤ 65536
theorem Paged.good {m : Mem} {pg : Nat} (h : Paged m pg) : Good m := ⟨h.oct, by rw [h.len]; have := h.le4; omega⟩
def mMost (hi : Int) (has : Bool) : Int := if has then (if hi < 4 then hi else 4) else 4
theorem mMost_le {m : Mem} {pg : Nat} (h : Paged m pg) : 0 ≤ mMost m.hi m.has ∧ mMost m.hi m.has ≤ 4 := by
  have := h.hi0
  unfold mMost
  cases hh : m.has with
  | true => have := this hh; simp only [if_true]; split <;> omega
  | false => exact ⟨by simp, by simp⟩
theorem splice_zero {b : List Int} {n : Nat} (h : b.length ≤ n) : splice (List.replicate n 0) 0 b = b ++ List.replicate (n - b.length) 0 := by
  unfold splice
  rw [List.take_zero, List.nil_append, Nat.zero_add, List.drop_replicate]
theorem MO.put {w0 w w1 w2 : World} {L : List As} {p g n : Nat} {m : Mem} {b : List Int} (hS : SB w0 w (MO p m :: L)) (hb : Below w.heap.size w w1) (hR : (Kd.int .u8).R 5 w1 0 (fun _ => True) (.slice (some ⟨g, 0, none⟩) n n) b)
    (hg : w.heap.size ≤ g) (hgs : g < w1.heap.size) (hw : w2 = w1.setCell ⟨p, 0, none⟩ (.slice (some ⟨g, 0, none⟩) n n)) : SB w0 w2 (MO p { m with b := b } :: L) := by
  subst hw
  refine hS.upd (fun F hF hge => ?_)
  obtain ⟨A, c', hblk, hR0, hc, hp, hl⟩ := MO.open_ hF
  have hblk1 : w1.heap[p]? = some (.cells #[.slice A m.b.length c', .int .i64 m.lo, .int .i64 m.hi, .bool m.has] 63 (0, 0)) := (hb.block p (blk_lt hblk)).trans hblk
  have hpg : g ≠ p := by have := blk_lt hblk; omega
  refine ⟨fun k => k = p ∨ k = g, ⟨.slice (some ⟨g, 0, none⟩) n n, ?_, ?_, .inl rfl, ?_⟩, (Fr.of_below (F := F) hb).setCell (p := ⟨p, 0, none⟩) (.inl hp) _, ?_⟩
  · exact blk_set hblk1 0 _
  · exact Kd.R_far (Kd.R_reok (ok := fun k => (k = p ∨ k = g) ∧ k ≠ p) rfl hR (fun k_ e_ => by simp [Value.ownBlock] at e_; subst e_; exact ⟨.inr rfl, hpg⟩)) (fun k hk => hk.2) _
  · rintro k (rfl | rfl)
    · have := blk_lt hblk1; simpa [World.setCell] using this
    · simpa [World.setCell] using hgs
  · rintro k (rfl | rfl)
    · exact .inl hp
    · exact .inr hg
/-- What is grown to; None: it may not. -/
def mGrow (m : Mem) (pg : Nat) (n : Int) : Option (List Int) := if 0 ≤ n ∧ n ≤ mMost m.hi m.has - pg then some (m.b ++ List.replicate (65536 * n.toNat) 0) else none
theorem append0 (b : List Int) : b ++ List.replicate (65536 * (0 : Int).toNat) 0 = b := by simp
set_option maxHeartbeats 4000000 in
theorem memGrow {w0 w : World} {L : List As} {p : Nat} {m : Mem} {pg : Nat} (hS : SB w0 w (MO p m :: L)) (hP : Paged m pg) (n : Int) (hn : -9223372036854775808 ≤ n ∧ n < 9223372036854775808) :
    Calls Tryd.prog 20 #[.pointer (some ⟨p, 0, none⟩), .int .i64 n] w fun e w' => e = .returned (.int .i64 (if (mGrow m pg n).isSome then (pg : Int) else -1)) ∧ SB w0 w' (MO p { m with b := (mGrow m pg n).getD m.b } :: L) := by
  obtain ⟨F, hF, _⟩ := hS.head
  obtain ⟨A, c, hblk, hR, hc, hp, hlt⟩ := MO.open_ hF
  have h : w.cell? ⟨p, 0, none⟩ = some (.slice A m.b.length c) := (blk_cell hblk 0).trans rfl
  have hhi : w.cell? ⟨p, 2, none⟩ = some (.int .i64 m.hi) := (blk_cell hblk 2).trans rfl
  have hhas : w.cell? ⟨p, 3, none⟩ = some (.bool m.has) := (blk_cell hblk 3).trans rfl
  have hfz : w.frozen? ⟨p, 0, none⟩ = false := blk_frozen hblk _
  have hlen := hP.len
  have hmost := mMost_le hP
  have hpg4 := hP.le4
  have hdiv : (m.b.length : Int) / 65536 = (pg : Int) := by rw [hlen]; omega
  have HLEN := Aside0.mk hlen
  have HBK := Aside0.mk hblk
  have HS := Aside0.mk hS
  have HR := Aside0.mk hR
  obtain ⟨most, hmo⟩ : ∃ most, mMost m.hi m.has = most := ⟨_, rfl⟩
  rw [hmo] at hmost
  have hr1 : mGrow m pg n = if 0 ≤ n ∧ n ≤ most - pg then some (m.b ++ List.replicate (65536 * n.toNat) 0) else none := by unfold mGrow; rw [hmo]
  clear hS hblk hR hF hlen
  have hmost_hi : m.has = true → (if m.hi < 4 then m.hi else 4) = most := fun e => by rw [← hmo]; unfold mMost; rw [e]; rfl
  have hmost_4 : m.has = false → most = 4 := fun e => by rw [← hmo]; unfold mMost; rw [e]; rfl
  have HMH := Aside0.mk hmost_hi
  have HM4 := Aside0.mk hmost_4
  clear hmost_hi hmost_4 hmo
  by_cases c1 : n < 0
  · have d1 : decide (n < 0) = true := decide_eq_true c1
    have hr2 : mGrow m pg n = none := hr1.trans (if_neg (by omega))
    rw [hr2]
    clear hr1 hr2
    rcases Bool.eq_false_or_eq_true m.has with hh | hh
    · rw [hh] at hhas
      have hite := HMH.out hh
      clear hh
      go_enter Tryd.func20, Tryd.ntmps20
      go_wp2_with (go_at_call 19; (with_reducible refine (memPages p A _ c _ (by have := HLEN.out; omega) h).mono ?_); rintro e w' ⟨rfl, ⟨nd, rfl⟩⟩)
      go_ret
      exact ⟨rfl, HS.out.drewN _⟩
    · rw [hh] at hhas
      obtain rfl := HM4.out hh
      clear hh
      go_enter Tryd.func20, Tryd.ntmps20
      go_wp2_with (go_at_call 19; (with_reducible refine (memPages p A _ c _ (by have := HLEN.out; omega) h).mono ?_); rintro e w' ⟨rfl, ⟨nd, rfl⟩⟩)
      go_ret
      exact ⟨rfl, HS.out.drewN _⟩
  · have d1 : decide (n < 0) = false := decide_eq_false c1
    by_cases c2 : most - pg < n
    · have d2 : decide (most - pg < n) = true := decide_eq_true c2
      have hr2 : mGrow m pg n = none := hr1.trans (if_neg (by omega))
      rw [hr2]
      clear hr1 hr2
      rcases Bool.eq_false_or_eq_true m.has with hh | hh
      · rw [hh] at hhas
        have hite := HMH.out hh
        clear hh
        go_enter Tryd.func20, Tryd.ntmps20
        go_wp2_with (go_at_call 19; (with_reducible refine (memPages p A _ c _ (by have := HLEN.out; omega) h).mono ?_); rintro e w' ⟨rfl, ⟨nd, rfl⟩⟩)
        go_ret
        exact ⟨rfl, HS.out.drewN _⟩
      · rw [hh] at hhas
        obtain rfl := HM4.out hh
        clear hh
        go_enter Tryd.func20, Tryd.ntmps20
        go_wp2_with (go_at_call 19; (with_reducible refine (memPages p A _ c _ (by have := HLEN.out; omega) h).mono ?_); rintro e w' ⟨rfl, ⟨nd, rfl⟩⟩)
        go_ret
        exact ⟨rfl, HS.out.drewN _⟩
    · have d2 : decide (most - pg < n) = false := decide_eq_false c2
      by_cases c3 : n = 0
      · subst c3
        have hr2 := hr1.trans (if_pos (by omega))
        rw [hr2, append0]
        clear hr1 hr2
        rcases Bool.eq_false_or_eq_true m.has with hh | hh
        · rw [hh] at hhas
          have hite := HMH.out hh
          clear hh
          go_enter Tryd.func20, Tryd.ntmps20
          go_wp2_with (go_at_call 19; (with_reducible refine (memPages p A _ c _ (by have := HLEN.out; omega) h).mono ?_); rintro e w' ⟨rfl, ⟨nd, rfl⟩⟩)
          go_ret
          exact ⟨rfl, HS.out.drewN _⟩
        · rw [hh] at hhas
          obtain rfl := HM4.out hh
          clear hh
          go_enter Tryd.func20, Tryd.ntmps20
          go_wp2_with (go_at_call 19; (with_reducible refine (memPages p A _ c _ (by have := HLEN.out; omega) h).mono ?_); rintro e w' ⟨rfl, ⟨nd, rfl⟩⟩)
          go_ret
          exact ⟨rfl, HS.out.drewN _⟩
      · have d3 : decide (0 < n) = true := decide_eq_true (by omega)
        have hr2 := hr1.trans (if_pos (by omega))
        rw [hr2]
        clear hr1 hr2
        obtain ⟨N, hN⟩ : ∃ N : Nat, ((pg : Int) + n) * 65536 = (N : Int) := ⟨(((pg : Int) + n) * 65536).toNat, by omega⟩
        have hNle : N ≤ 262144 := by omega
        have hlN : m.b.length ≤ N := by rw [HLEN.out]; omega
        have hNl : N - m.b.length = 65536 * n.toNat := by rw [HLEN.out]; omega
        have hmk := make_run N (by omega)
        obtain ⟨z, hz⟩ : ∃ z : List Int, z = List.replicate N 0 := ⟨_, rfl⟩
        have hzl : z.length = N := by rw [hz, List.length_replicate]
        have HZ := Aside0.mk (show ∀ W : World, W.heap.size = w.heap.size → (Kd.int .u8).R 5 (W.alloc (.cells (madeCells #[.int .u8 0] N) 5)) 0 (fun _ => True) (.slice (some ⟨w.heap.size, 0, none⟩) z.length N) z from fun W hW => by
          rw [hzl, hz, ← hW]
          exact made_R (heap_alloc_new W _) (Nat.zero_le _) (by omega) trivial)
        have HC := Aside0.mk (Kd.R_reads' HR.out).2.2
        have HRES := Aside0.mk (show splice z 0 m.b = m.b ++ List.replicate (65536 * n.toNat) 0 by rw [hz, splice_zero hlN, hNl])
        have HZL := Aside0.mk hzl
        have HNL := Aside0.mk hNl
        have HLN := Aside0.mk hlN
        clear hNl hlN hz hzl
        rcases Bool.eq_false_or_eq_true m.has with hh | hh
        · rw [hh] at hhas
          have hite := HMH.out hh
          clear hh
          go_enter Tryd.func20, Tryd.ntmps20
          go_wp2_with (first
            | (go_at_call 19; (with_reducible refine (memPages p A _ c _ (by have := HLEN.out; omega) h).mono ?_); rintro e w' ⟨rfl, ⟨nd, rfl⟩⟩; have h2 : ∀ o, ((w.drewN nd).alloc o).cell? ⟨p, 0, none⟩ = some (.slice A m.b.length c) := fun o => pw_cell_below (below_alloc (pw_below_drewN (Below.refl _ _) _) o) h)
            | ((with_reducible refine gate_builtin (b := .copy) (xs := #[.tmp 48, .tmp 52]) rfl ?_); refine copy_tail rfl (.tmp 48) (.tmp 52) 39 39 rfl Tryd.underlying39 size5 w.heap.size N 0 N N c z m.b A (fun _ => True) rfl rfl (HZ.out (w.drewN nd) rfl) (Kd.C_below HC.out (below_alloc (pw_below_drewN (Below.refl _ _) _) _)) (by have := HLN.out; have := HZL.out; omega) HLN.out ?_; intro w2 hR2 hF2; rw [HZL.out, HRES.out] at hR2; have hbw := (below_alloc (pw_below_drewN (Below.refl w.heap.size w) nd) (.cells (madeCells #[.int .u8 0] N) 5)).trans (Below.mk hF2.os hF2.tape hF2.output hF2.size (fun k hk => hF2.block k (by simp; omega) (by omega))); have hc2 := pw_cell_below hbw h; have hf2 := blk_frozen ((hbw.block p (blk_lt HBK.out)).trans HBK.out) 0; have hs2 := (Fr.size hF2); have HR2 := Aside0.mk hR2; have HBW := Aside0.mk hbw; clear hR2 hF2 hbw))
          go_ret
          exact ⟨rfl, MO.put HS.out HBW.out HR2.out (Nat.le_refl _) (by simp at hs2; omega) rfl⟩
        · rw [hh] at hhas
          obtain rfl := HM4.out hh
          clear hh
          go_enter Tryd.func20, Tryd.ntmps20
          go_wp2_with (first
            | (go_at_call 19; (with_reducible refine (memPages p A _ c _ (by have := HLEN.out; omega) h).mono ?_); rintro e w' ⟨rfl, ⟨nd, rfl⟩⟩; have h2 : ∀ o, ((w.drewN nd).alloc o).cell? ⟨p, 0, none⟩ = some (.slice A m.b.length c) := fun o => pw_cell_below (below_alloc (pw_below_drewN (Below.refl _ _) _) o) h)
            | ((with_reducible refine gate_builtin (b := .copy) (xs := #[.tmp 48, .tmp 52]) rfl ?_); refine copy_tail rfl (.tmp 48) (.tmp 52) 39 39 rfl Tryd.underlying39 size5 w.heap.size N 0 N N c z m.b A (fun _ => True) rfl rfl (HZ.out (w.drewN nd) rfl) (Kd.C_below HC.out (below_alloc (pw_below_drewN (Below.refl _ _) _) _)) (by have := HLN.out; have := HZL.out; omega) HLN.out ?_; intro w2 hR2 hF2; rw [HZL.out, HRES.out] at hR2; have hbw := (below_alloc (pw_below_drewN (Below.refl w.heap.size w) nd) (.cells (madeCells #[.int .u8 0] N) 5)).trans (Below.mk hF2.os hF2.tape hF2.output hF2.size (fun k hk => hF2.block k (by simp; omega) (by omega))); have hc2 := pw_cell_below hbw h; have hf2 := blk_frozen ((hbw.block p (blk_lt HBK.out)).trans HBK.out) 0; have hs2 := (Fr.size hF2); have HR2 := Aside0.mk hR2; have HBW := Aside0.mk hbw; clear hR2 hF2 hbw))
          go_ret
          exact ⟨rfl, MO.put HS.out HBW.out HR2.out (Nat.le_refl _) (by simp at hs2; omega) rfl⟩
theorem nilPages (w : World) : Calls Tryd.prog 19 #[.pointer none] w fun e w' => e = .returned (.int .i64 0) ∧ Drawn0 w w' := by
  go_enter Tryd.func19, Tryd.ntmps19
  go_wp2_with (go_at_call 31; refine (memAllNil _).mono ?_; rintro e w' ⟨rfl, ⟨nd, rfl⟩⟩)
  go_ret
  exact ⟨rfl, _, rfl⟩
theorem nilGrow (w : World) : Calls Tryd.prog 20 #[.pointer none, .int .i64 0] w fun e w' => e = .returned (.int .i64 (-1)) ∧ Drawn0 w w' := by
  go_enter Tryd.func20, Tryd.ntmps20
  go_wp2_with (go_at_call 19; refine (nilPages _).mono ?_; rintro e w' ⟨rfl, ⟨nd, rfl⟩⟩)
  go_ret
  exact ⟨rfl, _, rfl⟩
theorem nilFits (base off k : Int) (w : World) (hb : 0 ≤ base ∧ base ≤ 4294967295) (ho : 0 ≤ off ∧ off ≤ 4294967295) (hk : 0 ≤ k ∧ k ≤ 8) (h : 0 < base + off + k) : Calls Tryd.prog 21 #[.pointer none, .int .u64 base, .int .u64 off, .int .i64 k] w fun e w' => e = .returned (.bool false) ∧ Drawn0 w w' := by
  have d1 : decide (base ≤ 4294967295) = true := decide_eq_true hb.2
  have d2 : decide (off ≤ 4294967295) = true := decide_eq_true ho.2
  have d3 : decide (0 ≤ k) = true := decide_eq_true hk.1
  have d4 : decide (k ≤ 4294967295) = true := decide_eq_true (by omega)
  have d5 : decide (base + off + k ≤ 0) = false := decide_eq_false (by omega)
  go_enter Tryd.func21, Tryd.ntmps21
  go_wp2_with (go_at_call 31; refine (memAllNil _).mono ?_; rintro e w' ⟨rfl, ⟨nd, rfl⟩⟩)
  go_ret
  exact ⟨rfl, _, rfl⟩
theorem nilWin (w : World) : Calls Tryd.prog 29 #[.pointer none, .int .u64 0, .int .u64 0, .int .i64 4] w fun e w' => e = .returned (.tuple #[.slice none 0 0, .bool false]) ∧ Drawn0 w w' := by
  go_enter Tryd.func29, Tryd.ntmps29
  go_wp2_with (go_at_call 21; refine (nilFits _ _ _ _ (by decide) (by decide) (by decide) (by decide)).mono ?_; rintro e w' ⟨rfl, ⟨nd, rfl⟩⟩)
  go_ret2
  exact ⟨rfl, _, rfl⟩
theorem nilStore (w : World) (hG : Globs w) : Calls Tryd.prog 11 #[.pointer none, .int .i64 54, .int .u64 0, .int .u64 0, .int .u64 1] w fun e w' => e = .returned (.bool false) ∧ Below w.heap.size w w' := by
  have HG := Aside0.mk hG
  clear hG
  have ha : acc 54 = (127, 4, false, true) := rfl
  go_enter Tryd.func11, Tryd.ntmps11
  go_wp2_with (first
    | (go_at_call 17; refine (instrAccess 54 _ HG.out (by decide)).mono ?_; rintro e w1 ⟨rfl, hb1⟩; rw [ha]; have HB := Aside0.mk hb1; clear hb1)
    | (go_at_call 29; refine (nilWin _).mono ?_; rintro e w' ⟨rfl, ⟨nd, rfl⟩⟩))
  go_ret
  exact ⟨rfl, HB.out.trans (by repeat (first | exact Below.refl _ _ | apply pw_below_drewN))⟩
theorem nilBytes (w : World) : Calls Tryd.prog 16 #[.pointer none, .int .i64 0, .int .i64 1] w fun e w' => e = .returned (.slice none 0 0) ∧ Drawn0 w w' := by
  go_enter Tryd.func16, Tryd.ntmps16
  go_wp2_with (go_at_call 31; refine (memAllNil _).mono ?_; rintro e w' ⟨rfl, ⟨nd, rfl⟩⟩)
  go_ret
  exact ⟨rfl, _, rfl⟩
theorem memLimits {w0 w : World} {L : List As} {p : Nat} {m : Mem} {pg : Nat} (hS : SB w0 w (MO p m :: L)) (hP : Paged m pg) :
    Calls Tryd.prog 26 #[.pointer (some ⟨p, 0, none⟩)] w fun e w' => e = .returned (.agg #[.int .i64 pg, .int .i64 m.hi, .bool m.has]) ∧ SB w0 w' (MO p m :: L) := by
  obtain ⟨F, hF, _⟩ := hS.head
  obtain ⟨A, c, hblk, hR, hc, hp, hlt⟩ := MO.open_ hF
  have h : w.cell? ⟨p, 0, none⟩ = some (.slice A m.b.length c) := (blk_cell hblk 0).trans rfl
  have hlo : w.cell? ⟨p, 1, none⟩ = some (.int .i64 m.lo) := (blk_cell hblk 1).trans rfl
  have hhi : w.cell? ⟨p, 2, none⟩ = some (.int .i64 m.hi) := (blk_cell hblk 2).trans rfl
  have hhas : w.cell? ⟨p, 3, none⟩ = some (.bool m.has) := (blk_cell hblk 3).trans rfl
  have hlen := hP.len
  have hdiv : (m.b.length : Int) / 65536 = (pg : Int) := by rw [hlen]; omega
  have HLEN := Aside0.mk hlen
  have HS := Aside0.mk hS
  have hpl := blk_lt hblk
  clear hS hblk hR hF hlen
  have key : ∀ nd : Nat, ∀ W : World, W = (((w.alloc (.cells #[.int .i64 0, .int .i64 0, .bool false] 29)).alloc (.cells #[.int .i64 m.lo, .int .i64 m.hi, .bool m.has] 29)).drewN nd) →
      W.heap[w.heap.size + 1]? = some (.cells #[.int .i64 m.lo, .int .i64 m.hi, .bool m.has] 29 (0, 0)) ∧ W.heap[w.heap.size]? = some (.cells #[.int .i64 0, .int .i64 0, .bool false] 29 (0, 0)) ∧ Below w.heap.size w W := fun nd W hW => by
    subst hW
    refine ⟨?_, ?_, pw_below_drewN (below_alloc (below_alloc (Below.refl _ _) _) _) _⟩
    · have := heap_alloc_new (w.alloc (.cells #[.int .i64 0, .int .i64 0, .bool false] 29)) (.cells #[.int .i64 m.lo, .int .i64 m.hi, .bool m.has] 29)
      simpa using this
    · show ((w.alloc _).alloc _).heap[w.heap.size]? = _
      rw [Below.heap_alloc _ _ _ (by simp)]
      exact heap_alloc_new w _
  have KEY := Aside0.mk key
  clear key
  go_enter Tryd.func26, Tryd.ntmps26
  go_wp2_with (go_at_call 19; (with_reducible refine (memPages p A _ c _ (by have := HLEN.out; have := hP.le4; omega) (pw_cell_below (below_alloc (below_alloc (Below.refl _ _) _) _) h)).mono ?_); rintro e W ⟨rfl, ⟨nd, hW⟩⟩; obtain ⟨h1, h2, hb⟩ := KEY.out nd W hW; have a0 := blk_cell h1 0; have a1 := blk_cell h1 1; have a2 := blk_cell h1 2; have b0 := blk_cell h2 0; have b1 := blk_cell h2 1; have b2 := blk_cell h2 2; have fa := blk_frozen h1 0; have fb := blk_frozen h2 0; have fb1 := blk_frozen h2 1; have fb2 := blk_frozen h2 2; have HB := Aside0.mk hb; clear hb hW)
  refine bodyPost_ret (v := .agg #[.int .i64 pg, .int .i64 m.hi, .bool m.has]) (by simp [results, Tryd.results26, go_sem, *]) rfl ⟨rfl, ?_⟩
  exact HS.out.below ((((HB.out.setCell (by simp) _).setCell (by simp) _).setCell (by simp) _).setCell (by simp) _)
end Go.Proofs.YtffoolhfjomhhaaDoor.G

