/- The document's stacks: what each function does; and one thing done with both. -/
import Derived.Deep.DeepMust
import Derived.Test.YtbbgkelcdooabaaFraH
import Derived.Test.YtbbgkelcdooabaaFraV
import Derived.Test.YtbbgkelcdooabaaFraX
namespace Go.Proofs.Ytbbgkelcdooabaa.G
open Go.RowKit Go.Proofs.YtbbgkelcdooabaaW.PrintWords Go.Proofs.YtbbgkelcdooabaaW.PrintLast Go.Proofs.YtbbgkelcdooabaaW.PrintMore
set_option linter.unusedVariables false
set_option linter.unusedSimpArgs false
section
variable {w0 w : World} {L : List As} {g : Nat} {s : FS} {B : Nat}
theorem xEnter (hS : SB w0 w (XO g s :: L)) (hI : Inv s B) (hB : B ≤ 100000) (hF : s.fr.length ≤ 64) (a b c d : Int) (hc : -9223372036854775808 ≤ c ∧ c < 9223372036854775808) (hd : d ≤ 1000000) {s' : FS} {r : Int} (h : fEnter s a b c d = (s', r)) :
    Calls Try.prog 45 #[.pointer (some ⟨g, 0, none⟩), .int .i64 a, .int .i64 b, .int .i64 c, .int .i64 d] w fun e w' => e = .returned (.int .i64 r) ∧ SB w0 w' (XO g s' :: L) := by
  unfold fEnter at h
  split at h
  · rename_i h1
    simp only [Prod.mk.injEq] at h
    obtain ⟨rfl, rfl⟩ := h
    exact xEnterDeep hS hF a b c d h1
  · rename_i h1
    split at h
    · rename_i h2
      simp only [Prod.mk.injEq] at h
      obtain ⟨rfl, rfl⟩ := h
      exact xEnterStuck hS hI hB hF a b c d hc h1 h2
    · rename_i h2
      have h3 : hasN s c := Classical.byContradiction fun hh => h2 (.inr hh)
      obtain ⟨k, rfl⟩ := Int.eq_ofNat_of_zero_le h3.1
      obtain ⟨m, rfl⟩ := Int.eq_ofNat_of_zero_le (show 0 ≤ d from Classical.byContradiction fun hh => h2 (.inl (by omega)))
      simp only [Prod.mk.injEq, Int.toNat_natCast] at h
      obtain ⟨rfl, rfl⟩ := h
      exact xEnterOk hS hI hB hF a b k m (by omega) h1 h3
theorem xLeave (hS : SB w0 w (XO g s :: L)) (hI : Inv s B) (hB : B ≤ 100000) (hF : s.fr.length ≤ 64) (c : Int) (hc : -9223372036854775808 ≤ c ∧ c < 9223372036854775808) {s' : FS} {r : Bool} (h : fLeave s c = (s', r)) :
    Calls Try.prog 46 #[.pointer (some ⟨g, 0, none⟩), .int .i64 c] w fun e w' => e = .returned (.bool r) ∧ SB w0 w' (XO g s' :: L) := by
  unfold fLeave at h
  split at h
  · rename_i h1
    simp only [Prod.mk.injEq] at h
    obtain ⟨rfl, rfl⟩ := h
    exact xLeaveNo hS hI hB hF c hc h1
  · rename_i h1
    have h3 : hasN s c := Classical.byContradiction fun hh => h1 (.inr hh)
    obtain ⟨k, rfl⟩ := Int.eq_ofNat_of_zero_le h3.1
    simp only [Prod.mk.injEq, Int.toNat_natCast] at h
    obtain ⟨rfl, rfl⟩ := h
    exact xLeaveOk hS hI hB hF k (fun hf => h1 (.inl hf)) h3
theorem xCut (hS : SB w0 w (XO g s :: L)) (hI : Inv s B) (hB : B ≤ 100000) (hF : s.fr.length ≤ 64) (a c : Int) (ha : -9223372036854775808 ≤ a ∧ a < 9223372036854775808) {s' : FS} {r : Bool} (h : fCut s a c = (s', r)) :
    Calls Try.prog 47 #[.pointer (some ⟨g, 0, none⟩), .int .i64 a, .int .i64 c] w fun e w' => e = .returned (.bool r) ∧ SB w0 w' (XO g s' :: L) := by
  unfold fCut at h
  split at h
  · rename_i h1
    simp only [Prod.mk.injEq] at h
    obtain ⟨rfl, rfl⟩ := h
    exact xCutNo hS hI hB hF a c ha h1
  · rename_i h1
    simp only [not_or, Classical.not_not] at h1
    obtain ⟨h2, h3, h4, h5, h6⟩ := h1
    obtain ⟨k, rfl⟩ := Int.eq_ofNat_of_zero_le (show 0 ≤ a by omega)
    obtain ⟨m, rfl⟩ := Int.eq_ofNat_of_zero_le (show 0 ≤ c by omega)
    simp only [Prod.mk.injEq, Int.toNat_natCast] at h
    obtain ⟨rfl, rfl⟩ := h
    exact xCutOk hS hI hB hF k m h2 h5 (by omega)
theorem xGo (hS : SB w0 w (XO g s :: L)) (hF : s.fr.length ≤ 64) (pc : Int) {s' : FS} {r : Bool} (h : fGo s pc = (s', r)) :
    Calls Try.prog 48 #[.pointer (some ⟨g, 0, none⟩), .int .i64 pc] w fun e w' => e = .returned (.bool r) ∧ SB w0 w' (XO g s' :: L) := by
  unfold fGo at h
  split at h
  · rename_i h1
    simp only [Prod.mk.injEq] at h
    obtain ⟨rfl, rfl⟩ := h
    exact xGoNo hS pc (last_none h1)
  · rename_i x h1
    simp only [Prod.mk.injEq] at h
    obtain ⟨rfl, rfl⟩ := h
    exact xGoOk hS hF (last_some h1) pc
theorem xGet (hS : SB w0 w (XO g s :: L)) (hF : s.fr.length ≤ 64) (hlc : ∀ f ∈ s.fr, f.loc.length ≤ 1000000) (i : Int) {x : Int} {r : Bool} (h : fGet s i = (x, r)) :
    Calls Try.prog 49 #[.pointer (some ⟨g, 0, none⟩), .int .i64 i] w fun e w' => e = .returned (.tuple #[.int .u64 x, .bool r]) ∧ SB w0 w' (XO g s :: L) := by
  unfold fGet at h
  split at h
  · rename_i h1
    simp only [Prod.mk.injEq] at h
    obtain ⟨rfl, rfl⟩ := h
    exact xLocalNo hS hF hlc i (noL0 h1)
  · rename_i y h1
    split at h
    · rename_i h2
      obtain ⟨k, rfl⟩ := Int.eq_ofNat_of_zero_le h2.1
      have h3 : k < y.loc.length := by omega
      simp only [Prod.mk.injEq, Int.toNat_natCast] at h
      obtain ⟨rfl, rfl⟩ := h
      rw [show y.loc.getD k 0 = y.loc[k] by rw [List.getD_eq_getElem?_getD, List.getElem?_eq_getElem h3]; rfl]
      exact xLocalOk hS hF (last_some h1) (hlc y (by rw [last_some h1]; simp)) k h3
    · rename_i h2
      simp only [Prod.mk.injEq] at h
      obtain ⟨rfl, rfl⟩ := h
      exact xLocalNo hS hF hlc i (noL h1 h2)
theorem xSet (hS : SB w0 w (XO g s :: L)) (hF : s.fr.length ≤ 64) (hlc : ∀ f ∈ s.fr, f.loc.length ≤ 1000000) (i u : Int) {s' : FS} {r : Bool} (h : fSet s i u = (s', r)) :
    Calls Try.prog 50 #[.pointer (some ⟨g, 0, none⟩), .int .i64 i, .int .u64 u] w fun e w' => e = .returned (.bool r) ∧ SB w0 w' (XO g s' :: L) := by
  unfold fSet at h
  split at h
  · rename_i h1
    simp only [Prod.mk.injEq] at h
    obtain ⟨rfl, rfl⟩ := h
    exact xSetNo hS hF hlc i u (noL0 h1)
  · rename_i y h1
    split at h
    · rename_i h2
      obtain ⟨k, rfl⟩ := Int.eq_ofNat_of_zero_le h2.1
      have h3 : k < y.loc.length := by omega
      simp only [Prod.mk.injEq, Int.toNat_natCast] at h
      obtain ⟨rfl, rfl⟩ := h
      exact xSetOk hS hF (last_some h1) (hlc y (by rw [last_some h1]; simp)) k h3 u
    · rename_i h2
      simp only [Prod.mk.injEq] at h
      obtain ⟨rfl, rfl⟩ := h
      exact xSetNo hS hF hlc i u (noL h1 h2)
end
set_option maxHeartbeats 8000000 in
set_option maxRecDepth 100000 in
theorem frBoth {w0 w : World} {L : List As} {p g : Nat} {s : FS} {B : Nat} (hS : SB w0 w (FO p s :: XO g s :: L)) (hI : Inv s B) (hB : B ≤ 90000) (hF : s.fr.length ≤ 64) (o : S44) (A : Option Addr) (c : Nat) (hC : Kd.C (Kd.int .u64) w0 A o.f6.length o.f6) (hc : o.f6.length ≤ c) (hl : o.f6.length ≤ 1000) (hM : o.f4 ≤ 1000000) (hN : -9223372036854775808 ≤ o.f3 ∧ o.f3 < 9223372036854775808) :
    Calls Try.prog 26 #[.pointer (some ⟨p, 0, none⟩), .pointer (some ⟨g, 0, none⟩), .agg #[.int .i64 o.f0, .int .i64 o.f1, .int .i64 o.f2, .int .i64 o.f3, .int .i64 o.f4, .int .u64 o.f5, .slice A o.f6.length c]] w fun e w' => e = .returned (.bool true) ∧ SB w0 w' (FO p (fDo s o).1 :: XO g (fDo s o).1 :: L) := by
  obtain ⟨wh, f, pc, n, m, v, l⟩ := o
  dsimp only at hC hc hl hM hN ⊢
  have hlc : ∀ f ∈ s.fr, f.loc.length ≤ 1000000 := fun f hf => by have := hI.loc f hf; omega
  have hvl := hI.vl
  obtain ⟨b, hb, hbx⟩ := hS.boxE #[.int .i64 wh, .int .i64 f, .int .i64 pc, .int .i64 n, .int .i64 m, .int .u64 v, .slice A l.length c] 44
  have HS := Aside0.mk (hbx.pick3 [1, 2, 0])
  have HC := Aside0.mk hC
  have hl1 : s.v.length ≤ 1000000 := by omega
  have hl2 : s.v.length + l.length ≤ 1000000 := by omega
  have HI := Aside0.mk (hI.up (B' := 100000) (by omega))
  have hb' : w.heap.size = b := hb.symm
  have HLC := Aside0.mk hlc
  clear hS hbx hC hI hb hlc hvl
  by_cases h01 : wh = 0 ∨ wh = 1
  · have e : fDo s ⟨wh, f, pc, n, m, v, l⟩ = (fPush s l, true) := by unfold fDo; rw [if_pos h01]
    rw [e]
    clear e
    rcases h01 with rfl | rfl
    · go_enter Try.func26, Try.ntmps26
      go_wp2_with (first
        | (go_at_call 11; go_must ((with_reducible refine (fraPush HS.out A c l (Kd.C_below HC.out HS.out.bel) hc hl2).mono ?_); rintro e w1 ⟨rfl, hs⟩; have hb1 := (hs.pick3 [2]).blk; have y6 := blk_cell hb1 6; have HS1 := Aside0.mk (hs.pick3 [1, 0]); clear hs hb1))
        | (go_at_call 42; go_must ((with_reducible refine (xPush HS1.out A c l (Kd.C_below HC.out HS1.out.bel) hc hl2).mono ?_); rintro e w2 ⟨rfl, hs⟩; have HS2 := Aside0.mk hs.swap; clear hs)))
      go_ret
      exact ⟨rfl, HS2.out⟩
    · go_enter Try.func26, Try.ntmps26
      go_wp2_with (first
        | (go_at_call 11; go_must ((with_reducible refine (fraPush HS.out A c l (Kd.C_below HC.out HS.out.bel) hc hl2).mono ?_); rintro e w1 ⟨rfl, hs⟩; have hb1 := (hs.pick3 [2]).blk; have y6 := blk_cell hb1 6; have HS1 := Aside0.mk (hs.pick3 [1, 0]); clear hs hb1))
        | (go_at_call 42; go_must ((with_reducible refine (xPush HS1.out A c l (Kd.C_below HC.out HS1.out.bel) hc hl2).mono ?_); rintro e w2 ⟨rfl, hs⟩; have HS2 := Aside0.mk hs.swap; clear hs)))
      go_ret
      exact ⟨rfl, HS2.out⟩
  by_cases h2 : wh = 2
  · subst h2
    have e : fDo s ⟨2, f, pc, n, m, v, l⟩ = ((fPop s).1, (fPop s).2.2) := rfl
    obtain ⟨s', r1, r2, hp⟩ : ∃ s' r1 r2, fPop s = (s', r1, r2) := ⟨_, _, _, rfl⟩
    rw [e, hp]
    clear e
    have hp := Aside0.mk hp
    go_enter Try.func26, Try.ntmps26
    go_wp2_with (first
      | (go_at_call 22; go_must ((with_reducible refine (fraPop HS.out hl1 hp.out).mono ?_); rintro e w1 ⟨rfl, hs⟩; have HS1 := Aside0.mk (hs.pick3 [1, 0]); clear hs))
      | (go_at_call 43; go_must ((with_reducible refine (xPop HS1.out HI.out (by omega) hF hp.out).mono ?_); rintro e w2 ⟨rfl, hs⟩; have HS2 := Aside0.mk hs.swap; clear hs)))
    go_ret
    exact ⟨rfl, HS2.out⟩
  by_cases h3 : wh = 3
  · subst h3
    have e : fDo s ⟨3, f, pc, n, m, v, l⟩ = ((fTake s n).1, (fTake s n).2.2) := rfl
    obtain ⟨s', xt, r2, hp⟩ : ∃ s' r1 r2, fTake s n = (s', r1, r2) := ⟨_, _, _, rfl⟩
    have hxt : (fTake s n).2.1 = xt := by rw [hp]
    rw [e, hp]
    clear e
    have hxl : xt.length ≤ 1000000 := by
      rw [← hxt]
      unfold fTake
      split
      · simp; omega
      · simp
    have hp := Aside0.mk hp
    obtain ⟨lt, hlt⟩ : ∃ k, xt.length = k := ⟨_, rfl⟩
    rw [hlt] at hxl
    have HLT := Aside0.mk hlt
    clear hlt hxt
    go_enter Try.func26, Try.ntmps26
    go_wp2_with (first
      | (go_at_call 33; go_must ((with_reducible refine (fraTake HS.out hl1 n hp.out).mono ?_); rintro e w1 ⟨v1, rfl, hs⟩; obtain ⟨A1, c1, rfl, hc1, _⟩ := hs.reads; rw [HLT.out] at hs hc1 ⊢; have hb1 := (hs.pick4 [3]).blk; have y3 := blk_cell hb1 3; have HS1 := Aside0.mk (hs.pick4 [2, 0, 1]); clear hs hb1))
      | (go_at_call 44; go_must ((with_reducible refine (xTake HS1.out HI.out (by omega) hF n hN hp.out).mono ?_); rintro e w2 ⟨v2, rfl, hs⟩; obtain ⟨A2, c2, rfl, hc2, hC2⟩ := hs.reads; obtain ⟨A1', c1', e1', _, hC1⟩ := (hs.pick3 [2]).reads; injection e1' with f1 f2 f3; clear f2 f3; subst f1; rw [HLT.out] at hs hc2 hC2 hC1 ⊢; have HS2 := Aside0.mk hs; have HC1 := Aside0.mk hC1; have HC2 := Aside0.mk hC2; clear hs hC1 hC2))
      | (go_at_call 15; go_must ((with_reducible refine (frWords HS2.out A1 A2 lt c1 c2 xt HLT.out HC1.out hc1 HC2.out hc2 hxl).mono ?_); rintro e w3 ⟨rfl, hs⟩; have HS3 := Aside0.mk hs; clear hs)))
    go_ret
    exact ⟨rfl, HS3.out.pick4 [3, 1]⟩
  by_cases h45 : wh = 4 ∨ wh = 5
  · have e : fDo s ⟨wh, f, pc, n, m, v, l⟩ = ((fEnter s f pc n m).1, (fEnter s f pc n m).2 == 0) := by unfold fDo; rw [if_neg h01, if_neg h2, if_neg h3, if_pos h45]
    obtain ⟨s', r1, hp⟩ : ∃ s' r1, fEnter s f pc n m = (s', r1) := ⟨_, _, rfl⟩
    rw [e, hp]
    clear e h01 h2 h3
    have hp := Aside0.mk hp
    rcases h45 with rfl | rfl
    · skip
      go_enter Try.func26, Try.ntmps26
      go_wp2
      have HDF := Aside0.mk HS.out.drew
      have hbd : _ = some (Obj.cells #[.int .i64 4, .int .i64 f, .int .i64 pc, .int .i64 n, .int .i64 m, .int .u64 v, .slice A l.length c] 44 (0, 0)) := (HDF.out.pick3 [2]).blk
      refine rg_startL (n := 22) (S := fun w' => w'.heap[b]? = some (.cells #[.int .i64 4, .int .i64 f, .int .i64 pc, .int .i64 n, .int .i64 m, .int .u64 v, .slice A l.length c] 44 (0, 0))) (bm 22 0) (by kernel_rfl) rfl (by kernel_rfl) (hbd) (fun wd hwd hHeld => ?_)
      refine rg_take (i := 0) (N := some 79) (v := ?_) (a' := ?_) (bm 22 1) rfl rfl (by kernel_rfl) (fun _ _ _ h => h) hHeld (Or.inl ⟨by rfl, ?_⟩) ?_ ?_
      rotate_left
      · intro w' hw'
        have s1 := blk_cell hw' 1
        have s2 := blk_cell hw' 2
        have s3 := blk_cell hw' 3
        have s4 := blk_cell hw' 4
        have s5 := blk_cell hw' 5
        go_simp
        with_reducible rfl
      rotate_left
      · simp only [Act.put, List.setIfInBounds_toArray, List.set_cons_zero, List.set_cons_succ]
        rfl
      refine rg_take (i := 1) (N := some 80) (v := ?_) (a' := ?_) (bm 22 3) rfl rfl (by kernel_rfl) (fun _ _ _ h => h) hHeld (Or.inl ⟨by rfl, ?_⟩) ?_ ?_
      rotate_left
      · intro w' hw'
        have s1 := blk_cell hw' 1
        have s2 := blk_cell hw' 2
        have s3 := blk_cell hw' 3
        have s4 := blk_cell hw' 4
        have s5 := blk_cell hw' 5
        go_simp
        with_reducible rfl
      rotate_left
      · simp only [Act.put, List.setIfInBounds_toArray, List.set_cons_zero, List.set_cons_succ]
        rfl
      refine rg_take (i := 2) (N := some 81) (v := ?_) (a' := ?_) (bm 22 7) rfl rfl (by kernel_rfl) (fun _ _ _ h => h) hHeld (Or.inl ⟨by rfl, ?_⟩) ?_ ?_
      rotate_left
      · intro w' hw'
        have s1 := blk_cell hw' 1
        have s2 := blk_cell hw' 2
        have s3 := blk_cell hw' 3
        have s4 := blk_cell hw' 4
        have s5 := blk_cell hw' 5
        go_simp
        with_reducible rfl
      rotate_left
      · simp only [Act.put, List.setIfInBounds_toArray, List.set_cons_zero, List.set_cons_succ]
        rfl
      refine rg_take (i := 3) (N := some 82) (v := ?_) (a' := ?_) (bm 22 15) rfl rfl (by kernel_rfl) (fun _ _ _ h => h) hHeld (Or.inl ⟨by rfl, ?_⟩) ?_ ?_
      rotate_left
      · intro w' hw'
        have s1 := blk_cell hw' 1
        have s2 := blk_cell hw' 2
        have s3 := blk_cell hw' 3
        have s4 := blk_cell hw' 4
        have s5 := blk_cell hw' 5
        go_simp
        with_reducible rfl
      rotate_left
      · simp only [Act.put, List.setIfInBounds_toArray, List.set_cons_zero, List.set_cons_succ]
        rfl
      refine rg_take (i := 4) (N := some 83) (v := ?_) (a' := ?_) (bm 22 31) rfl rfl (by kernel_rfl) (fun _ _ _ h => h) hHeld (Or.inl ⟨by rfl, ?_⟩) ?_ ?_
      rotate_left
      · intro w' hw'
        have s1 := blk_cell hw' 1
        have s2 := blk_cell hw' 2
        have s3 := blk_cell hw' 3
        have s4 := blk_cell hw' 4
        have s5 := blk_cell hw' 5
        go_simp
        with_reducible rfl
      rotate_left
      · simp only [Act.put, List.setIfInBounds_toArray, List.set_cons_zero, List.set_cons_succ]
        rfl
      refine rg_take (i := 5) (N := some 84) (v := ?_) (a' := ?_) (bm 22 63) rfl rfl (by kernel_rfl) (fun _ _ _ h => h) hHeld (Or.inl ⟨by rfl, ?_⟩) ?_ ?_
      rotate_left
      · intro w' hw'
        have s1 := blk_cell hw' 1
        have s2 := blk_cell hw' 2
        have s3 := blk_cell hw' 3
        have s4 := blk_cell hw' 4
        have s5 := blk_cell hw' 5
        go_simp
        with_reducible rfl
      rotate_left
      · simp only [Act.put, List.setIfInBounds_toArray, List.set_cons_zero, List.set_cons_succ]
        rfl
      refine rg_take (i := 6) (N := some 85) (v := ?_) (a' := ?_) (bm 22 127) rfl rfl (by kernel_rfl) (fun _ _ _ h => h) hHeld (Or.inl ⟨by rfl, ?_⟩) ?_ ?_
      rotate_left
      · intro w' hw'
        have s1 := blk_cell hw' 1
        have s2 := blk_cell hw' 2
        have s3 := blk_cell hw' 3
        have s4 := blk_cell hw' 4
        have s5 := blk_cell hw' 5
        go_simp
        with_reducible rfl
      rotate_left
      · simp only [Act.put, List.setIfInBounds_toArray, List.set_cons_zero, List.set_cons_succ]
        rfl
      refine rg_take (i := 7) (N := some 86) (v := ?_) (a' := ?_) (bm 22 255) rfl rfl (by kernel_rfl) (fun _ _ _ h => h) hHeld (Or.inl ⟨by rfl, ?_⟩) ?_ ?_
      rotate_left
      · intro w' hw'
        have s1 := blk_cell hw' 1
        have s2 := blk_cell hw' 2
        have s3 := blk_cell hw' 3
        have s4 := blk_cell hw' 4
        have s5 := blk_cell hw' 5
        go_simp
        with_reducible rfl
      rotate_left
      · simp only [Act.put, List.setIfInBounds_toArray, List.set_cons_zero, List.set_cons_succ]
        rfl
      refine rg_take (i := 8) (N := some 87) (v := ?_) (a' := ?_) (bm 22 511) rfl rfl (by kernel_rfl) (fun _ _ _ h => h) hHeld (Or.inl ⟨by rfl, ?_⟩) ?_ ?_
      rotate_left
      · intro w' hw'
        have s1 := blk_cell hw' 1
        have s2 := blk_cell hw' 2
        have s3 := blk_cell hw' 3
        have s4 := blk_cell hw' 4
        have s5 := blk_cell hw' 5
        go_simp
        with_reducible rfl
      rotate_left
      · simp only [Act.put, List.setIfInBounds_toArray, List.set_cons_zero, List.set_cons_succ]
        rfl
      refine rg_take (i := 10) (N := some 89) (v := ?_) (a' := ?_) (bm 22 1535) rfl rfl (by kernel_rfl) (fun _ _ _ h => h) hHeld (Or.inl ⟨by rfl, ?_⟩) ?_ ?_
      rotate_left
      · intro w' hw'
        have s1 := blk_cell hw' 1
        have s2 := blk_cell hw' 2
        have s3 := blk_cell hw' 3
        have s4 := blk_cell hw' 4
        have s5 := blk_cell hw' 5
        go_simp
        with_reducible rfl
      rotate_left
      · simp only [Act.put, List.setIfInBounds_toArray, List.set_cons_zero, List.set_cons_succ]
        rfl
      refine rg_take (i := 11) (N := some 90) (v := ?_) (a' := ?_) (bm 22 3583) rfl rfl (by kernel_rfl) (fun _ _ _ h => h) hHeld (Or.inl ⟨by rfl, ?_⟩) ?_ ?_
      rotate_left
      · intro w' hw'
        have s1 := blk_cell hw' 1
        have s2 := blk_cell hw' 2
        have s3 := blk_cell hw' 3
        have s4 := blk_cell hw' 4
        have s5 := blk_cell hw' 5
        go_simp
        with_reducible rfl
      rotate_left
      · simp only [Act.put, List.setIfInBounds_toArray, List.set_cons_zero, List.set_cons_succ]
        rfl
      refine rg_take (i := 12) (N := some 91) (v := ?_) (a' := ?_) (bm 22 7679) rfl rfl (by kernel_rfl) (fun _ _ _ h => h) hHeld (Or.inl ⟨by rfl, ?_⟩) ?_ ?_
      rotate_left
      · intro w' hw'
        have s1 := blk_cell hw' 1
        have s2 := blk_cell hw' 2
        have s3 := blk_cell hw' 3
        have s4 := blk_cell hw' 4
        have s5 := blk_cell hw' 5
        go_simp
        with_reducible rfl
      rotate_left
      · simp only [Act.put, List.setIfInBounds_toArray, List.set_cons_zero, List.set_cons_succ]
        rfl
      refine rg_take (i := 13) (N := some 92) (v := ?_) (a' := ?_) (bm 22 15871) rfl rfl (by kernel_rfl) (fun _ _ _ h => h) hHeld (Or.inl ⟨by rfl, ?_⟩) ?_ ?_
      rotate_left
      · intro w' hw'
        have s1 := blk_cell hw' 1
        have s2 := blk_cell hw' 2
        have s3 := blk_cell hw' 3
        have s4 := blk_cell hw' 4
        have s5 := blk_cell hw' 5
        go_simp
        with_reducible rfl
      rotate_left
      · simp only [Act.put, List.setIfInBounds_toArray, List.set_cons_zero, List.set_cons_succ]
        rfl
      refine rg_take (i := 14) (N := some 93) (v := ?_) (a' := ?_) (bm 22 32255) rfl rfl (by kernel_rfl) (fun _ _ _ h => h) hHeld (Or.inl ⟨by rfl, ?_⟩) ?_ ?_
      rotate_left
      · intro w' hw'
        have s1 := blk_cell hw' 1
        have s2 := blk_cell hw' 2
        have s3 := blk_cell hw' 3
        have s4 := blk_cell hw' 4
        have s5 := blk_cell hw' 5
        go_simp
        with_reducible rfl
      rotate_left
      · simp only [Act.put, List.setIfInBounds_toArray, List.set_cons_zero, List.set_cons_succ]
        rfl
      refine rg_take (i := 15) (N := some 94) (v := ?_) (a' := ?_) (bm 22 65023) rfl rfl (by kernel_rfl) (fun _ _ _ h => h) hHeld (Or.inl ⟨by rfl, ?_⟩) ?_ ?_
      rotate_left
      · intro w' hw'
        have s1 := blk_cell hw' 1
        have s2 := blk_cell hw' 2
        have s3 := blk_cell hw' 3
        have s4 := blk_cell hw' 4
        have s5 := blk_cell hw' 5
        go_simp
        with_reducible rfl
      rotate_left
      · simp only [Act.put, List.setIfInBounds_toArray, List.set_cons_zero, List.set_cons_succ]
        rfl
      refine rg_take (i := 16) (N := some 95) (v := ?_) (a' := ?_) (bm 22 130559) rfl rfl (by kernel_rfl) (fun _ _ _ h => h) hHeld (Or.inl ⟨by rfl, ?_⟩) ?_ ?_
      rotate_left
      · intro w' hw'
        have s1 := blk_cell hw' 1
        have s2 := blk_cell hw' 2
        have s3 := blk_cell hw' 3
        have s4 := blk_cell hw' 4
        have s5 := blk_cell hw' 5
        go_simp
        with_reducible rfl
      rotate_left
      · simp only [Act.put, List.setIfInBounds_toArray, List.set_cons_zero, List.set_cons_succ]
        rfl
      refine rg_take (i := 17) (N := some 96) (v := ?_) (a' := ?_) (bm 22 261631) rfl rfl (by kernel_rfl) (fun _ _ _ h => h) hHeld (Or.inl ⟨by rfl, ?_⟩) ?_ ?_
      rotate_left
      · intro w' hw'
        have s1 := blk_cell hw' 1
        have s2 := blk_cell hw' 2
        have s3 := blk_cell hw' 3
        have s4 := blk_cell hw' 4
        have s5 := blk_cell hw' 5
        go_simp
        with_reducible rfl
      rotate_left
      · simp only [Act.put, List.setIfInBounds_toArray, List.set_cons_zero, List.set_cons_succ]
        rfl
      refine rg_take (i := 18) (N := some 97) (v := ?_) (a' := ?_) (bm 22 523775) rfl rfl (by kernel_rfl) (fun _ _ _ h => h) hHeld (Or.inl ⟨by rfl, ?_⟩) ?_ ?_
      rotate_left
      · intro w' hw'
        have s1 := blk_cell hw' 1
        have s2 := blk_cell hw' 2
        have s3 := blk_cell hw' 3
        have s4 := blk_cell hw' 4
        have s5 := blk_cell hw' 5
        go_simp
        with_reducible rfl
      rotate_left
      · simp only [Act.put, List.setIfInBounds_toArray, List.set_cons_zero, List.set_cons_succ]
        rfl
      refine rg_ready [9] (by kernel_rfl) (by simp) ?_
      refine rg_one (i := 9) (N := some 88) (bm 22 524287) rfl rfl (by kernel_rfl) (fun K hK => ?_) rg_nil
      have HD := Aside0.mk (hwd.out ▸ HDF.out)
      go_simp
      go_at_call 12
      with_reducible refine (fraEnter HD.out hl1 f pc n m hM hp.out).mono ?_
      rintro e wx9r16 ⟨rfl, hs⟩
      have HD1 := Aside0.mk (hs.pick3 [1, 0, 2])
      have hnew := (hs.pick3 [2]).blk
      clear hs
      go_wp2_with fail
      refine hK.out _ _ hnew ?_
      clear hK K
      refine rg_norm (a' := ?_) ?_ ?_
      rotate_left
      · simp only [Act.put, List.setIfInBounds_toArray, List.set_cons_zero, List.set_cons_succ]
        rfl
      clear hHeld
      have hHeld := hnew
      clear hnew
      refine rg_ready [19] (by kernel_rfl) (by simp) ?_
      refine rg_one (i := 19) (N := some 98) (bm 22 1048575) rfl rfl (by kernel_rfl) (fun K hK => ?_) rg_nil
      go_simp
      go_at_call 45
      with_reducible refine (xEnter HD1.out HI.out (by omega) hF f pc n m hN hM hp.out).mono ?_
      rintro e wx9x19r16 ⟨rfl, hs⟩
      have HD2 := Aside0.mk (hs.pick3 [1, 0, 2])
      have hnew := (hs.pick3 [2]).blk
      clear hs
      go_wp2_with fail
      refine hK.out _ _ hnew ?_
      clear hK K
      refine rg_norm (a' := ?_) ?_ ?_
      rotate_left
      · simp only [Act.put, List.setIfInBounds_toArray, List.set_cons_zero, List.set_cons_succ]
        rfl
      clear hHeld
      have hHeld := hnew
      clear hnew
      refine rg_take (i := 20) (N := some 99) (v := ?_) (a' := ?_) (bm 22 2097151) rfl rfl (by kernel_rfl) (fun _ _ _ h => h) hHeld (Or.inl ⟨by rfl, ?_⟩) ?_ ?_
      rotate_left
      · intro w' hw'
        have s1 := blk_cell hw' 1
        have s2 := blk_cell hw' 2
        have s3 := blk_cell hw' 3
        have s4 := blk_cell hw' 4
        have s5 := blk_cell hw' 5
        go_simp
        with_reducible rfl
      rotate_left
      · simp only [Act.put, List.setIfInBounds_toArray, List.set_cons_zero, List.set_cons_succ]
        rfl
      refine rg_take (i := 21) (N := some 6) (v := ?_) (a' := ?_) (bm 22 4194303) rfl rfl (by kernel_rfl) (fun _ _ _ h => h) hHeld (Or.inl ⟨by rfl, ?_⟩) ?_ ?_
      rotate_left
      · intro w' hw'
        have s1 := blk_cell hw' 1
        have s2 := blk_cell hw' 2
        have s3 := blk_cell hw' 3
        have s4 := blk_cell hw' 4
        have s5 := blk_cell hw' 5
        go_simp
        with_reducible rfl
      rotate_left
      · simp only [Act.put, List.setIfInBounds_toArray, List.set_cons_zero, List.set_cons_succ]
        rfl
      refine rg_done (by kernel_rfl) ?_
      go_wp2
      go_ret
      exact ⟨rfl, HD2.out.pick3 [0, 1]⟩
    · skip
      go_enter Try.func26, Try.ntmps26
      go_wp2
      have HDF := Aside0.mk HS.out.drew
      have hbd : _ = some (Obj.cells #[.int .i64 5, .int .i64 f, .int .i64 pc, .int .i64 n, .int .i64 m, .int .u64 v, .slice A l.length c] 44 (0, 0)) := (HDF.out.pick3 [2]).blk
      refine rg_startL (n := 22) (S := fun w' => w'.heap[b]? = some (.cells #[.int .i64 5, .int .i64 f, .int .i64 pc, .int .i64 n, .int .i64 m, .int .u64 v, .slice A l.length c] 44 (0, 0))) (bm 22 0) (by kernel_rfl) rfl (by kernel_rfl) (hbd) (fun wd hwd hHeld => ?_)
      refine rg_take (i := 0) (N := some 79) (v := ?_) (a' := ?_) (bm 22 1) rfl rfl (by kernel_rfl) (fun _ _ _ h => h) hHeld (Or.inl ⟨by rfl, ?_⟩) ?_ ?_
      rotate_left
      · intro w' hw'
        have s1 := blk_cell hw' 1
        have s2 := blk_cell hw' 2
        have s3 := blk_cell hw' 3
        have s4 := blk_cell hw' 4
        have s5 := blk_cell hw' 5
        go_simp
        with_reducible rfl
      rotate_left
      · simp only [Act.put, List.setIfInBounds_toArray, List.set_cons_zero, List.set_cons_succ]
        rfl
      refine rg_take (i := 1) (N := some 80) (v := ?_) (a' := ?_) (bm 22 3) rfl rfl (by kernel_rfl) (fun _ _ _ h => h) hHeld (Or.inl ⟨by rfl, ?_⟩) ?_ ?_
      rotate_left
      · intro w' hw'
        have s1 := blk_cell hw' 1
        have s2 := blk_cell hw' 2
        have s3 := blk_cell hw' 3
        have s4 := blk_cell hw' 4
        have s5 := blk_cell hw' 5
        go_simp
        with_reducible rfl
      rotate_left
      · simp only [Act.put, List.setIfInBounds_toArray, List.set_cons_zero, List.set_cons_succ]
        rfl
      refine rg_take (i := 2) (N := some 81) (v := ?_) (a' := ?_) (bm 22 7) rfl rfl (by kernel_rfl) (fun _ _ _ h => h) hHeld (Or.inl ⟨by rfl, ?_⟩) ?_ ?_
      rotate_left
      · intro w' hw'
        have s1 := blk_cell hw' 1
        have s2 := blk_cell hw' 2
        have s3 := blk_cell hw' 3
        have s4 := blk_cell hw' 4
        have s5 := blk_cell hw' 5
        go_simp
        with_reducible rfl
      rotate_left
      · simp only [Act.put, List.setIfInBounds_toArray, List.set_cons_zero, List.set_cons_succ]
        rfl
      refine rg_take (i := 3) (N := some 82) (v := ?_) (a' := ?_) (bm 22 15) rfl rfl (by kernel_rfl) (fun _ _ _ h => h) hHeld (Or.inl ⟨by rfl, ?_⟩) ?_ ?_
      rotate_left
      · intro w' hw'
        have s1 := blk_cell hw' 1
        have s2 := blk_cell hw' 2
        have s3 := blk_cell hw' 3
        have s4 := blk_cell hw' 4
        have s5 := blk_cell hw' 5
        go_simp
        with_reducible rfl
      rotate_left
      · simp only [Act.put, List.setIfInBounds_toArray, List.set_cons_zero, List.set_cons_succ]
        rfl
      refine rg_take (i := 4) (N := some 83) (v := ?_) (a' := ?_) (bm 22 31) rfl rfl (by kernel_rfl) (fun _ _ _ h => h) hHeld (Or.inl ⟨by rfl, ?_⟩) ?_ ?_
      rotate_left
      · intro w' hw'
        have s1 := blk_cell hw' 1
        have s2 := blk_cell hw' 2
        have s3 := blk_cell hw' 3
        have s4 := blk_cell hw' 4
        have s5 := blk_cell hw' 5
        go_simp
        with_reducible rfl
      rotate_left
      · simp only [Act.put, List.setIfInBounds_toArray, List.set_cons_zero, List.set_cons_succ]
        rfl
      refine rg_take (i := 5) (N := some 84) (v := ?_) (a' := ?_) (bm 22 63) rfl rfl (by kernel_rfl) (fun _ _ _ h => h) hHeld (Or.inl ⟨by rfl, ?_⟩) ?_ ?_
      rotate_left
      · intro w' hw'
        have s1 := blk_cell hw' 1
        have s2 := blk_cell hw' 2
        have s3 := blk_cell hw' 3
        have s4 := blk_cell hw' 4
        have s5 := blk_cell hw' 5
        go_simp
        with_reducible rfl
      rotate_left
      · simp only [Act.put, List.setIfInBounds_toArray, List.set_cons_zero, List.set_cons_succ]
        rfl
      refine rg_take (i := 6) (N := some 85) (v := ?_) (a' := ?_) (bm 22 127) rfl rfl (by kernel_rfl) (fun _ _ _ h => h) hHeld (Or.inl ⟨by rfl, ?_⟩) ?_ ?_
      rotate_left
      · intro w' hw'
        have s1 := blk_cell hw' 1
        have s2 := blk_cell hw' 2
        have s3 := blk_cell hw' 3
        have s4 := blk_cell hw' 4
        have s5 := blk_cell hw' 5
        go_simp
        with_reducible rfl
      rotate_left
      · simp only [Act.put, List.setIfInBounds_toArray, List.set_cons_zero, List.set_cons_succ]
        rfl
      refine rg_take (i := 7) (N := some 86) (v := ?_) (a' := ?_) (bm 22 255) rfl rfl (by kernel_rfl) (fun _ _ _ h => h) hHeld (Or.inl ⟨by rfl, ?_⟩) ?_ ?_
      rotate_left
      · intro w' hw'
        have s1 := blk_cell hw' 1
        have s2 := blk_cell hw' 2
        have s3 := blk_cell hw' 3
        have s4 := blk_cell hw' 4
        have s5 := blk_cell hw' 5
        go_simp
        with_reducible rfl
      rotate_left
      · simp only [Act.put, List.setIfInBounds_toArray, List.set_cons_zero, List.set_cons_succ]
        rfl
      refine rg_take (i := 8) (N := some 87) (v := ?_) (a' := ?_) (bm 22 511) rfl rfl (by kernel_rfl) (fun _ _ _ h => h) hHeld (Or.inl ⟨by rfl, ?_⟩) ?_ ?_
      rotate_left
      · intro w' hw'
        have s1 := blk_cell hw' 1
        have s2 := blk_cell hw' 2
        have s3 := blk_cell hw' 3
        have s4 := blk_cell hw' 4
        have s5 := blk_cell hw' 5
        go_simp
        with_reducible rfl
      rotate_left
      · simp only [Act.put, List.setIfInBounds_toArray, List.set_cons_zero, List.set_cons_succ]
        rfl
      refine rg_take (i := 10) (N := some 89) (v := ?_) (a' := ?_) (bm 22 1535) rfl rfl (by kernel_rfl) (fun _ _ _ h => h) hHeld (Or.inl ⟨by rfl, ?_⟩) ?_ ?_
      rotate_left
      · intro w' hw'
        have s1 := blk_cell hw' 1
        have s2 := blk_cell hw' 2
        have s3 := blk_cell hw' 3
        have s4 := blk_cell hw' 4
        have s5 := blk_cell hw' 5
        go_simp
        with_reducible rfl
      rotate_left
      · simp only [Act.put, List.setIfInBounds_toArray, List.set_cons_zero, List.set_cons_succ]
        rfl
      refine rg_take (i := 11) (N := some 90) (v := ?_) (a' := ?_) (bm 22 3583) rfl rfl (by kernel_rfl) (fun _ _ _ h => h) hHeld (Or.inl ⟨by rfl, ?_⟩) ?_ ?_
      rotate_left
      · intro w' hw'
        have s1 := blk_cell hw' 1
        have s2 := blk_cell hw' 2
        have s3 := blk_cell hw' 3
        have s4 := blk_cell hw' 4
        have s5 := blk_cell hw' 5
        go_simp
        with_reducible rfl
      rotate_left
      · simp only [Act.put, List.setIfInBounds_toArray, List.set_cons_zero, List.set_cons_succ]
        rfl
      refine rg_take (i := 12) (N := some 91) (v := ?_) (a' := ?_) (bm 22 7679) rfl rfl (by kernel_rfl) (fun _ _ _ h => h) hHeld (Or.inl ⟨by rfl, ?_⟩) ?_ ?_
      rotate_left
      · intro w' hw'
        have s1 := blk_cell hw' 1
        have s2 := blk_cell hw' 2
        have s3 := blk_cell hw' 3
        have s4 := blk_cell hw' 4
        have s5 := blk_cell hw' 5
        go_simp
        with_reducible rfl
      rotate_left
      · simp only [Act.put, List.setIfInBounds_toArray, List.set_cons_zero, List.set_cons_succ]
        rfl
      refine rg_take (i := 13) (N := some 92) (v := ?_) (a' := ?_) (bm 22 15871) rfl rfl (by kernel_rfl) (fun _ _ _ h => h) hHeld (Or.inl ⟨by rfl, ?_⟩) ?_ ?_
      rotate_left
      · intro w' hw'
        have s1 := blk_cell hw' 1
        have s2 := blk_cell hw' 2
        have s3 := blk_cell hw' 3
        have s4 := blk_cell hw' 4
        have s5 := blk_cell hw' 5
        go_simp
        with_reducible rfl
      rotate_left
      · simp only [Act.put, List.setIfInBounds_toArray, List.set_cons_zero, List.set_cons_succ]
        rfl
      refine rg_take (i := 14) (N := some 93) (v := ?_) (a' := ?_) (bm 22 32255) rfl rfl (by kernel_rfl) (fun _ _ _ h => h) hHeld (Or.inl ⟨by rfl, ?_⟩) ?_ ?_
      rotate_left
      · intro w' hw'
        have s1 := blk_cell hw' 1
        have s2 := blk_cell hw' 2
        have s3 := blk_cell hw' 3
        have s4 := blk_cell hw' 4
        have s5 := blk_cell hw' 5
        go_simp
        with_reducible rfl
      rotate_left
      · simp only [Act.put, List.setIfInBounds_toArray, List.set_cons_zero, List.set_cons_succ]
        rfl
      refine rg_take (i := 15) (N := some 94) (v := ?_) (a' := ?_) (bm 22 65023) rfl rfl (by kernel_rfl) (fun _ _ _ h => h) hHeld (Or.inl ⟨by rfl, ?_⟩) ?_ ?_
      rotate_left
      · intro w' hw'
        have s1 := blk_cell hw' 1
        have s2 := blk_cell hw' 2
        have s3 := blk_cell hw' 3
        have s4 := blk_cell hw' 4
        have s5 := blk_cell hw' 5
        go_simp
        with_reducible rfl
      rotate_left
      · simp only [Act.put, List.setIfInBounds_toArray, List.set_cons_zero, List.set_cons_succ]
        rfl
      refine rg_take (i := 16) (N := some 95) (v := ?_) (a' := ?_) (bm 22 130559) rfl rfl (by kernel_rfl) (fun _ _ _ h => h) hHeld (Or.inl ⟨by rfl, ?_⟩) ?_ ?_
      rotate_left
      · intro w' hw'
        have s1 := blk_cell hw' 1
        have s2 := blk_cell hw' 2
        have s3 := blk_cell hw' 3
        have s4 := blk_cell hw' 4
        have s5 := blk_cell hw' 5
        go_simp
        with_reducible rfl
      rotate_left
      · simp only [Act.put, List.setIfInBounds_toArray, List.set_cons_zero, List.set_cons_succ]
        rfl
      refine rg_take (i := 17) (N := some 96) (v := ?_) (a' := ?_) (bm 22 261631) rfl rfl (by kernel_rfl) (fun _ _ _ h => h) hHeld (Or.inl ⟨by rfl, ?_⟩) ?_ ?_
      rotate_left
      · intro w' hw'
        have s1 := blk_cell hw' 1
        have s2 := blk_cell hw' 2
        have s3 := blk_cell hw' 3
        have s4 := blk_cell hw' 4
        have s5 := blk_cell hw' 5
        go_simp
        with_reducible rfl
      rotate_left
      · simp only [Act.put, List.setIfInBounds_toArray, List.set_cons_zero, List.set_cons_succ]
        rfl
      refine rg_take (i := 18) (N := some 97) (v := ?_) (a' := ?_) (bm 22 523775) rfl rfl (by kernel_rfl) (fun _ _ _ h => h) hHeld (Or.inl ⟨by rfl, ?_⟩) ?_ ?_
      rotate_left
      · intro w' hw'
        have s1 := blk_cell hw' 1
        have s2 := blk_cell hw' 2
        have s3 := blk_cell hw' 3
        have s4 := blk_cell hw' 4
        have s5 := blk_cell hw' 5
        go_simp
        with_reducible rfl
      rotate_left
      · simp only [Act.put, List.setIfInBounds_toArray, List.set_cons_zero, List.set_cons_succ]
        rfl
      refine rg_ready [9] (by kernel_rfl) (by simp) ?_
      refine rg_one (i := 9) (N := some 88) (bm 22 524287) rfl rfl (by kernel_rfl) (fun K hK => ?_) rg_nil
      have HD := Aside0.mk (hwd.out ▸ HDF.out)
      go_simp
      go_at_call 12
      with_reducible refine (fraEnter HD.out hl1 f pc n m hM hp.out).mono ?_
      rintro e wx9r16 ⟨rfl, hs⟩
      have HD1 := Aside0.mk (hs.pick3 [1, 0, 2])
      have hnew := (hs.pick3 [2]).blk
      clear hs
      go_wp2_with fail
      refine hK.out _ _ hnew ?_
      clear hK K
      refine rg_norm (a' := ?_) ?_ ?_
      rotate_left
      · simp only [Act.put, List.setIfInBounds_toArray, List.set_cons_zero, List.set_cons_succ]
        rfl
      clear hHeld
      have hHeld := hnew
      clear hnew
      refine rg_ready [19] (by kernel_rfl) (by simp) ?_
      refine rg_one (i := 19) (N := some 98) (bm 22 1048575) rfl rfl (by kernel_rfl) (fun K hK => ?_) rg_nil
      go_simp
      go_at_call 45
      with_reducible refine (xEnter HD1.out HI.out (by omega) hF f pc n m hN hM hp.out).mono ?_
      rintro e wx9x19r16 ⟨rfl, hs⟩
      have HD2 := Aside0.mk (hs.pick3 [1, 0, 2])
      have hnew := (hs.pick3 [2]).blk
      clear hs
      go_wp2_with fail
      refine hK.out _ _ hnew ?_
      clear hK K
      refine rg_norm (a' := ?_) ?_ ?_
      rotate_left
      · simp only [Act.put, List.setIfInBounds_toArray, List.set_cons_zero, List.set_cons_succ]
        rfl
      clear hHeld
      have hHeld := hnew
      clear hnew
      refine rg_take (i := 20) (N := some 99) (v := ?_) (a' := ?_) (bm 22 2097151) rfl rfl (by kernel_rfl) (fun _ _ _ h => h) hHeld (Or.inl ⟨by rfl, ?_⟩) ?_ ?_
      rotate_left
      · intro w' hw'
        have s1 := blk_cell hw' 1
        have s2 := blk_cell hw' 2
        have s3 := blk_cell hw' 3
        have s4 := blk_cell hw' 4
        have s5 := blk_cell hw' 5
        go_simp
        with_reducible rfl
      rotate_left
      · simp only [Act.put, List.setIfInBounds_toArray, List.set_cons_zero, List.set_cons_succ]
        rfl
      refine rg_take (i := 21) (N := some 6) (v := ?_) (a' := ?_) (bm 22 4194303) rfl rfl (by kernel_rfl) (fun _ _ _ h => h) hHeld (Or.inl ⟨by rfl, ?_⟩) ?_ ?_
      rotate_left
      · intro w' hw'
        have s1 := blk_cell hw' 1
        have s2 := blk_cell hw' 2
        have s3 := blk_cell hw' 3
        have s4 := blk_cell hw' 4
        have s5 := blk_cell hw' 5
        go_simp
        with_reducible rfl
      rotate_left
      · simp only [Act.put, List.setIfInBounds_toArray, List.set_cons_zero, List.set_cons_succ]
        rfl
      refine rg_done (by kernel_rfl) ?_
      go_wp2
      go_ret
      exact ⟨rfl, HD2.out.pick3 [0, 1]⟩
  by_cases h6 : wh = 6
  · subst h6
    have e : fDo s ⟨6, f, pc, n, m, v, l⟩ = ((fLeave s n).1, (fLeave s n).2) := rfl
    obtain ⟨s', r1, hp⟩ : ∃ s' r1, fLeave s n = (s', r1) := ⟨_, _, rfl⟩
    rw [e, hp]
    clear e
    have hp := Aside0.mk hp
    go_enter Try.func26, Try.ntmps26
    go_wp2
    have HDF := Aside0.mk HS.out.drew
    have hbd : _ = some (Obj.cells #[.int .i64 6, .int .i64 f, .int .i64 pc, .int .i64 n, .int .i64 m, .int .u64 v, .slice A l.length c] 44 (0, 0)) := (HDF.out.pick3 [2]).blk
    refine rg_startL (n := 10) (S := fun w' => w'.heap[b]? = some (.cells #[.int .i64 6, .int .i64 f, .int .i64 pc, .int .i64 n, .int .i64 m, .int .u64 v, .slice A l.length c] 44 (0, 0))) (bm 10 0) (by kernel_rfl) rfl (by kernel_rfl) (hbd) (fun wd hwd hHeld => ?_)
    refine rg_take (i := 0) (N := some 102) (v := ?_) (a' := ?_) (bm 10 1) rfl rfl (by kernel_rfl) (fun _ _ _ h => h) hHeld (Or.inl ⟨by rfl, ?_⟩) ?_ ?_
    rotate_left
    · intro w' hw'
      have s1 := blk_cell hw' 1
      have s2 := blk_cell hw' 2
      have s3 := blk_cell hw' 3
      have s4 := blk_cell hw' 4
      have s5 := blk_cell hw' 5
      go_simp
      with_reducible rfl
    rotate_left
    · simp only [Act.put, List.setIfInBounds_toArray, List.set_cons_zero, List.set_cons_succ]
      rfl
    refine rg_take (i := 1) (N := some 103) (v := ?_) (a' := ?_) (bm 10 3) rfl rfl (by kernel_rfl) (fun _ _ _ h => h) hHeld (Or.inl ⟨by rfl, ?_⟩) ?_ ?_
    rotate_left
    · intro w' hw'
      have s1 := blk_cell hw' 1
      have s2 := blk_cell hw' 2
      have s3 := blk_cell hw' 3
      have s4 := blk_cell hw' 4
      have s5 := blk_cell hw' 5
      go_simp
      with_reducible rfl
    rotate_left
    · simp only [Act.put, List.setIfInBounds_toArray, List.set_cons_zero, List.set_cons_succ]
      rfl
    refine rg_take (i := 2) (N := some 104) (v := ?_) (a' := ?_) (bm 10 7) rfl rfl (by kernel_rfl) (fun _ _ _ h => h) hHeld (Or.inl ⟨by rfl, ?_⟩) ?_ ?_
    rotate_left
    · intro w' hw'
      have s1 := blk_cell hw' 1
      have s2 := blk_cell hw' 2
      have s3 := blk_cell hw' 3
      have s4 := blk_cell hw' 4
      have s5 := blk_cell hw' 5
      go_simp
      with_reducible rfl
    rotate_left
    · simp only [Act.put, List.setIfInBounds_toArray, List.set_cons_zero, List.set_cons_succ]
      rfl
    refine rg_take (i := 4) (N := some 106) (v := ?_) (a' := ?_) (bm 10 23) rfl rfl (by kernel_rfl) (fun _ _ _ h => h) hHeld (Or.inl ⟨by rfl, ?_⟩) ?_ ?_
    rotate_left
    · intro w' hw'
      have s1 := blk_cell hw' 1
      have s2 := blk_cell hw' 2
      have s3 := blk_cell hw' 3
      have s4 := blk_cell hw' 4
      have s5 := blk_cell hw' 5
      go_simp
      with_reducible rfl
    rotate_left
    · simp only [Act.put, List.setIfInBounds_toArray, List.set_cons_zero, List.set_cons_succ]
      rfl
    refine rg_take (i := 5) (N := some 107) (v := ?_) (a' := ?_) (bm 10 55) rfl rfl (by kernel_rfl) (fun _ _ _ h => h) hHeld (Or.inl ⟨by rfl, ?_⟩) ?_ ?_
    rotate_left
    · intro w' hw'
      have s1 := blk_cell hw' 1
      have s2 := blk_cell hw' 2
      have s3 := blk_cell hw' 3
      have s4 := blk_cell hw' 4
      have s5 := blk_cell hw' 5
      go_simp
      with_reducible rfl
    rotate_left
    · simp only [Act.put, List.setIfInBounds_toArray, List.set_cons_zero, List.set_cons_succ]
      rfl
    refine rg_take (i := 6) (N := some 108) (v := ?_) (a' := ?_) (bm 10 119) rfl rfl (by kernel_rfl) (fun _ _ _ h => h) hHeld (Or.inl ⟨by rfl, ?_⟩) ?_ ?_
    rotate_left
    · intro w' hw'
      have s1 := blk_cell hw' 1
      have s2 := blk_cell hw' 2
      have s3 := blk_cell hw' 3
      have s4 := blk_cell hw' 4
      have s5 := blk_cell hw' 5
      go_simp
      with_reducible rfl
    rotate_left
    · simp only [Act.put, List.setIfInBounds_toArray, List.set_cons_zero, List.set_cons_succ]
      rfl
    refine rg_ready [3] (by kernel_rfl) (by simp) ?_
    refine rg_one (i := 3) (N := some 105) (bm 10 127) rfl rfl (by kernel_rfl) (fun K hK => ?_) rg_nil
    have HD := Aside0.mk (hwd.out ▸ HDF.out)
    go_simp
    go_at_call 14
    with_reducible refine (fraLeave HD.out hl1 n hp.out).mono ?_
    rintro e wx3r18 ⟨rfl, hs⟩
    have HD1 := Aside0.mk (hs.pick3 [1, 0, 2])
    have hnew := (hs.pick3 [2]).blk
    clear hs
    go_wp2_with fail
    refine hK.out _ _ hnew ?_
    clear hK K
    refine rg_norm (a' := ?_) ?_ ?_
    rotate_left
    · simp only [Act.put, List.setIfInBounds_toArray, List.set_cons_zero, List.set_cons_succ]
      rfl
    clear hHeld
    have hHeld := hnew
    clear hnew
    refine rg_ready [7] (by kernel_rfl) (by simp) ?_
    refine rg_one (i := 7) (N := some 109) (bm 10 255) rfl rfl (by kernel_rfl) (fun K hK => ?_) rg_nil
    go_simp
    go_at_call 46
    with_reducible refine (xLeave HD1.out HI.out (by omega) hF n hN hp.out).mono ?_
    rintro e wx3x7r18 ⟨rfl, hs⟩
    have HD2 := Aside0.mk (hs.pick3 [1, 0, 2])
    have hnew := (hs.pick3 [2]).blk
    clear hs
    go_wp2_with fail
    refine hK.out _ _ hnew ?_
    clear hK K
    refine rg_norm (a' := ?_) ?_ ?_
    rotate_left
    · simp only [Act.put, List.setIfInBounds_toArray, List.set_cons_zero, List.set_cons_succ]
      rfl
    clear hHeld
    have hHeld := hnew
    clear hnew
    refine rg_take (i := 8) (N := some 110) (v := ?_) (a' := ?_) (bm 10 511) rfl rfl (by kernel_rfl) (fun _ _ _ h => h) hHeld (Or.inl ⟨by rfl, ?_⟩) ?_ ?_
    rotate_left
    · intro w' hw'
      have s1 := blk_cell hw' 1
      have s2 := blk_cell hw' 2
      have s3 := blk_cell hw' 3
      have s4 := blk_cell hw' 4
      have s5 := blk_cell hw' 5
      go_simp
      with_reducible rfl
    rotate_left
    · simp only [Act.put, List.setIfInBounds_toArray, List.set_cons_zero, List.set_cons_succ]
      rfl
    refine rg_take (i := 9) (N := some 6) (v := ?_) (a' := ?_) (bm 10 1023) rfl rfl (by kernel_rfl) (fun _ _ _ h => h) hHeld (Or.inl ⟨by rfl, ?_⟩) ?_ ?_
    rotate_left
    · intro w' hw'
      have s1 := blk_cell hw' 1
      have s2 := blk_cell hw' 2
      have s3 := blk_cell hw' 3
      have s4 := blk_cell hw' 4
      have s5 := blk_cell hw' 5
      go_simp
      with_reducible rfl
    rotate_left
    · simp only [Act.put, List.setIfInBounds_toArray, List.set_cons_zero, List.set_cons_succ]
      rfl
    refine rg_done (by kernel_rfl) ?_
    go_wp2
    go_ret
    exact ⟨rfl, HD2.out.pick3 [0, 1]⟩
  by_cases h7 : wh = 7
  · subst h7
    have e : fDo s ⟨7, f, pc, n, m, v, l⟩ = ((fCut s n m).1, (fCut s n m).2) := rfl
    obtain ⟨s', r1, hp⟩ : ∃ s' r1, fCut s n m = (s', r1) := ⟨_, _, rfl⟩
    rw [e, hp]
    clear e
    have hp := Aside0.mk hp
    go_enter Try.func26, Try.ntmps26
    go_wp2
    have HDF := Aside0.mk HS.out.drew
    have hbd : _ = some (Obj.cells #[.int .i64 7, .int .i64 f, .int .i64 pc, .int .i64 n, .int .i64 m, .int .u64 v, .slice A l.length c] 44 (0, 0)) := (HDF.out.pick3 [2]).blk
    refine rg_startL (n := 14) (S := fun w' => w'.heap[b]? = some (.cells #[.int .i64 7, .int .i64 f, .int .i64 pc, .int .i64 n, .int .i64 m, .int .u64 v, .slice A l.length c] 44 (0, 0))) (bm 14 0) (by kernel_rfl) rfl (by kernel_rfl) (hbd) (fun wd hwd hHeld => ?_)
    refine rg_take (i := 0) (N := some 113) (v := ?_) (a' := ?_) (bm 14 1) rfl rfl (by kernel_rfl) (fun _ _ _ h => h) hHeld (Or.inl ⟨by rfl, ?_⟩) ?_ ?_
    rotate_left
    · intro w' hw'
      have s1 := blk_cell hw' 1
      have s2 := blk_cell hw' 2
      have s3 := blk_cell hw' 3
      have s4 := blk_cell hw' 4
      have s5 := blk_cell hw' 5
      go_simp
      with_reducible rfl
    rotate_left
    · simp only [Act.put, List.setIfInBounds_toArray, List.set_cons_zero, List.set_cons_succ]
      rfl
    refine rg_take (i := 1) (N := some 114) (v := ?_) (a' := ?_) (bm 14 3) rfl rfl (by kernel_rfl) (fun _ _ _ h => h) hHeld (Or.inl ⟨by rfl, ?_⟩) ?_ ?_
    rotate_left
    · intro w' hw'
      have s1 := blk_cell hw' 1
      have s2 := blk_cell hw' 2
      have s3 := blk_cell hw' 3
      have s4 := blk_cell hw' 4
      have s5 := blk_cell hw' 5
      go_simp
      with_reducible rfl
    rotate_left
    · simp only [Act.put, List.setIfInBounds_toArray, List.set_cons_zero, List.set_cons_succ]
      rfl
    refine rg_take (i := 2) (N := some 115) (v := ?_) (a' := ?_) (bm 14 7) rfl rfl (by kernel_rfl) (fun _ _ _ h => h) hHeld (Or.inl ⟨by rfl, ?_⟩) ?_ ?_
    rotate_left
    · intro w' hw'
      have s1 := blk_cell hw' 1
      have s2 := blk_cell hw' 2
      have s3 := blk_cell hw' 3
      have s4 := blk_cell hw' 4
      have s5 := blk_cell hw' 5
      go_simp
      with_reducible rfl
    rotate_left
    · simp only [Act.put, List.setIfInBounds_toArray, List.set_cons_zero, List.set_cons_succ]
      rfl
    refine rg_take (i := 3) (N := some 116) (v := ?_) (a' := ?_) (bm 14 15) rfl rfl (by kernel_rfl) (fun _ _ _ h => h) hHeld (Or.inl ⟨by rfl, ?_⟩) ?_ ?_
    rotate_left
    · intro w' hw'
      have s1 := blk_cell hw' 1
      have s2 := blk_cell hw' 2
      have s3 := blk_cell hw' 3
      have s4 := blk_cell hw' 4
      have s5 := blk_cell hw' 5
      go_simp
      with_reducible rfl
    rotate_left
    · simp only [Act.put, List.setIfInBounds_toArray, List.set_cons_zero, List.set_cons_succ]
      rfl
    refine rg_take (i := 4) (N := some 117) (v := ?_) (a' := ?_) (bm 14 31) rfl rfl (by kernel_rfl) (fun _ _ _ h => h) hHeld (Or.inl ⟨by rfl, ?_⟩) ?_ ?_
    rotate_left
    · intro w' hw'
      have s1 := blk_cell hw' 1
      have s2 := blk_cell hw' 2
      have s3 := blk_cell hw' 3
      have s4 := blk_cell hw' 4
      have s5 := blk_cell hw' 5
      go_simp
      with_reducible rfl
    rotate_left
    · simp only [Act.put, List.setIfInBounds_toArray, List.set_cons_zero, List.set_cons_succ]
      rfl
    refine rg_take (i := 6) (N := some 119) (v := ?_) (a' := ?_) (bm 14 95) rfl rfl (by kernel_rfl) (fun _ _ _ h => h) hHeld (Or.inl ⟨by rfl, ?_⟩) ?_ ?_
    rotate_left
    · intro w' hw'
      have s1 := blk_cell hw' 1
      have s2 := blk_cell hw' 2
      have s3 := blk_cell hw' 3
      have s4 := blk_cell hw' 4
      have s5 := blk_cell hw' 5
      go_simp
      with_reducible rfl
    rotate_left
    · simp only [Act.put, List.setIfInBounds_toArray, List.set_cons_zero, List.set_cons_succ]
      rfl
    refine rg_take (i := 7) (N := some 120) (v := ?_) (a' := ?_) (bm 14 223) rfl rfl (by kernel_rfl) (fun _ _ _ h => h) hHeld (Or.inl ⟨by rfl, ?_⟩) ?_ ?_
    rotate_left
    · intro w' hw'
      have s1 := blk_cell hw' 1
      have s2 := blk_cell hw' 2
      have s3 := blk_cell hw' 3
      have s4 := blk_cell hw' 4
      have s5 := blk_cell hw' 5
      go_simp
      with_reducible rfl
    rotate_left
    · simp only [Act.put, List.setIfInBounds_toArray, List.set_cons_zero, List.set_cons_succ]
      rfl
    refine rg_take (i := 8) (N := some 121) (v := ?_) (a' := ?_) (bm 14 479) rfl rfl (by kernel_rfl) (fun _ _ _ h => h) hHeld (Or.inl ⟨by rfl, ?_⟩) ?_ ?_
    rotate_left
    · intro w' hw'
      have s1 := blk_cell hw' 1
      have s2 := blk_cell hw' 2
      have s3 := blk_cell hw' 3
      have s4 := blk_cell hw' 4
      have s5 := blk_cell hw' 5
      go_simp
      with_reducible rfl
    rotate_left
    · simp only [Act.put, List.setIfInBounds_toArray, List.set_cons_zero, List.set_cons_succ]
      rfl
    refine rg_take (i := 9) (N := some 122) (v := ?_) (a' := ?_) (bm 14 991) rfl rfl (by kernel_rfl) (fun _ _ _ h => h) hHeld (Or.inl ⟨by rfl, ?_⟩) ?_ ?_
    rotate_left
    · intro w' hw'
      have s1 := blk_cell hw' 1
      have s2 := blk_cell hw' 2
      have s3 := blk_cell hw' 3
      have s4 := blk_cell hw' 4
      have s5 := blk_cell hw' 5
      go_simp
      with_reducible rfl
    rotate_left
    · simp only [Act.put, List.setIfInBounds_toArray, List.set_cons_zero, List.set_cons_succ]
      rfl
    refine rg_take (i := 10) (N := some 123) (v := ?_) (a' := ?_) (bm 14 2015) rfl rfl (by kernel_rfl) (fun _ _ _ h => h) hHeld (Or.inl ⟨by rfl, ?_⟩) ?_ ?_
    rotate_left
    · intro w' hw'
      have s1 := blk_cell hw' 1
      have s2 := blk_cell hw' 2
      have s3 := blk_cell hw' 3
      have s4 := blk_cell hw' 4
      have s5 := blk_cell hw' 5
      go_simp
      with_reducible rfl
    rotate_left
    · simp only [Act.put, List.setIfInBounds_toArray, List.set_cons_zero, List.set_cons_succ]
      rfl
    refine rg_ready [5] (by kernel_rfl) (by simp) ?_
    refine rg_one (i := 5) (N := some 118) (bm 14 2047) rfl rfl (by kernel_rfl) (fun K hK => ?_) rg_nil
    have HD := Aside0.mk (hwd.out ▸ HDF.out)
    go_simp
    go_at_call 38
    with_reducible refine (fraCut HD.out hl1 n m hN hp.out).mono ?_
    rintro e wx5r20 ⟨rfl, hs⟩
    have HD1 := Aside0.mk (hs.pick3 [1, 0, 2])
    have hnew := (hs.pick3 [2]).blk
    clear hs
    go_wp2_with fail
    refine hK.out _ _ hnew ?_
    clear hK K
    refine rg_norm (a' := ?_) ?_ ?_
    rotate_left
    · simp only [Act.put, List.setIfInBounds_toArray, List.set_cons_zero, List.set_cons_succ]
      rfl
    clear hHeld
    have hHeld := hnew
    clear hnew
    refine rg_ready [11] (by kernel_rfl) (by simp) ?_
    refine rg_one (i := 11) (N := some 124) (bm 14 4095) rfl rfl (by kernel_rfl) (fun K hK => ?_) rg_nil
    go_simp
    go_at_call 47
    with_reducible refine (xCut HD1.out HI.out (by omega) hF n m hN hp.out).mono ?_
    rintro e wx5x11r20 ⟨rfl, hs⟩
    have HD2 := Aside0.mk (hs.pick3 [1, 0, 2])
    have hnew := (hs.pick3 [2]).blk
    clear hs
    go_wp2_with fail
    refine hK.out _ _ hnew ?_
    clear hK K
    refine rg_norm (a' := ?_) ?_ ?_
    rotate_left
    · simp only [Act.put, List.setIfInBounds_toArray, List.set_cons_zero, List.set_cons_succ]
      rfl
    clear hHeld
    have hHeld := hnew
    clear hnew
    refine rg_take (i := 12) (N := some 125) (v := ?_) (a' := ?_) (bm 14 8191) rfl rfl (by kernel_rfl) (fun _ _ _ h => h) hHeld (Or.inl ⟨by rfl, ?_⟩) ?_ ?_
    rotate_left
    · intro w' hw'
      have s1 := blk_cell hw' 1
      have s2 := blk_cell hw' 2
      have s3 := blk_cell hw' 3
      have s4 := blk_cell hw' 4
      have s5 := blk_cell hw' 5
      go_simp
      with_reducible rfl
    rotate_left
    · simp only [Act.put, List.setIfInBounds_toArray, List.set_cons_zero, List.set_cons_succ]
      rfl
    refine rg_take (i := 13) (N := some 6) (v := ?_) (a' := ?_) (bm 14 16383) rfl rfl (by kernel_rfl) (fun _ _ _ h => h) hHeld (Or.inl ⟨by rfl, ?_⟩) ?_ ?_
    rotate_left
    · intro w' hw'
      have s1 := blk_cell hw' 1
      have s2 := blk_cell hw' 2
      have s3 := blk_cell hw' 3
      have s4 := blk_cell hw' 4
      have s5 := blk_cell hw' 5
      go_simp
      with_reducible rfl
    rotate_left
    · simp only [Act.put, List.setIfInBounds_toArray, List.set_cons_zero, List.set_cons_succ]
      rfl
    refine rg_done (by kernel_rfl) ?_
    go_wp2
    go_ret
    exact ⟨rfl, HD2.out.pick3 [0, 1]⟩
  by_cases h8 : wh = 8
  · subst h8
    have e : fDo s ⟨8, f, pc, n, m, v, l⟩ = ((fGo s pc).1, (fGo s pc).2) := rfl
    obtain ⟨s', r1, hp⟩ : ∃ s' r1, fGo s pc = (s', r1) := ⟨_, _, rfl⟩
    rw [e, hp]
    clear e
    have hp := Aside0.mk hp
    go_enter Try.func26, Try.ntmps26
    go_wp2
    have HDF := Aside0.mk HS.out.drew
    have hbd : _ = some (Obj.cells #[.int .i64 8, .int .i64 f, .int .i64 pc, .int .i64 n, .int .i64 m, .int .u64 v, .slice A l.length c] 44 (0, 0)) := (HDF.out.pick3 [2]).blk
    refine rg_startL (n := 10) (S := fun w' => w'.heap[b]? = some (.cells #[.int .i64 8, .int .i64 f, .int .i64 pc, .int .i64 n, .int .i64 m, .int .u64 v, .slice A l.length c] 44 (0, 0))) (bm 10 0) (by kernel_rfl) rfl (by kernel_rfl) (hbd) (fun wd hwd hHeld => ?_)
    refine rg_take (i := 0) (N := some 128) (v := ?_) (a' := ?_) (bm 10 1) rfl rfl (by kernel_rfl) (fun _ _ _ h => h) hHeld (Or.inl ⟨by rfl, ?_⟩) ?_ ?_
    rotate_left
    · intro w' hw'
      have s1 := blk_cell hw' 1
      have s2 := blk_cell hw' 2
      have s3 := blk_cell hw' 3
      have s4 := blk_cell hw' 4
      have s5 := blk_cell hw' 5
      go_simp
      with_reducible rfl
    rotate_left
    · simp only [Act.put, List.setIfInBounds_toArray, List.set_cons_zero, List.set_cons_succ]
      rfl
    refine rg_take (i := 1) (N := some 129) (v := ?_) (a' := ?_) (bm 10 3) rfl rfl (by kernel_rfl) (fun _ _ _ h => h) hHeld (Or.inl ⟨by rfl, ?_⟩) ?_ ?_
    rotate_left
    · intro w' hw'
      have s1 := blk_cell hw' 1
      have s2 := blk_cell hw' 2
      have s3 := blk_cell hw' 3
      have s4 := blk_cell hw' 4
      have s5 := blk_cell hw' 5
      go_simp
      with_reducible rfl
    rotate_left
    · simp only [Act.put, List.setIfInBounds_toArray, List.set_cons_zero, List.set_cons_succ]
      rfl
    refine rg_take (i := 2) (N := some 130) (v := ?_) (a' := ?_) (bm 10 7) rfl rfl (by kernel_rfl) (fun _ _ _ h => h) hHeld (Or.inl ⟨by rfl, ?_⟩) ?_ ?_
    rotate_left
    · intro w' hw'
      have s1 := blk_cell hw' 1
      have s2 := blk_cell hw' 2
      have s3 := blk_cell hw' 3
      have s4 := blk_cell hw' 4
      have s5 := blk_cell hw' 5
      go_simp
      with_reducible rfl
    rotate_left
    · simp only [Act.put, List.setIfInBounds_toArray, List.set_cons_zero, List.set_cons_succ]
      rfl
    refine rg_take (i := 4) (N := some 132) (v := ?_) (a' := ?_) (bm 10 23) rfl rfl (by kernel_rfl) (fun _ _ _ h => h) hHeld (Or.inl ⟨by rfl, ?_⟩) ?_ ?_
    rotate_left
    · intro w' hw'
      have s1 := blk_cell hw' 1
      have s2 := blk_cell hw' 2
      have s3 := blk_cell hw' 3
      have s4 := blk_cell hw' 4
      have s5 := blk_cell hw' 5
      go_simp
      with_reducible rfl
    rotate_left
    · simp only [Act.put, List.setIfInBounds_toArray, List.set_cons_zero, List.set_cons_succ]
      rfl
    refine rg_take (i := 5) (N := some 133) (v := ?_) (a' := ?_) (bm 10 55) rfl rfl (by kernel_rfl) (fun _ _ _ h => h) hHeld (Or.inl ⟨by rfl, ?_⟩) ?_ ?_
    rotate_left
    · intro w' hw'
      have s1 := blk_cell hw' 1
      have s2 := blk_cell hw' 2
      have s3 := blk_cell hw' 3
      have s4 := blk_cell hw' 4
      have s5 := blk_cell hw' 5
      go_simp
      with_reducible rfl
    rotate_left
    · simp only [Act.put, List.setIfInBounds_toArray, List.set_cons_zero, List.set_cons_succ]
      rfl
    refine rg_take (i := 6) (N := some 134) (v := ?_) (a' := ?_) (bm 10 119) rfl rfl (by kernel_rfl) (fun _ _ _ h => h) hHeld (Or.inl ⟨by rfl, ?_⟩) ?_ ?_
    rotate_left
    · intro w' hw'
      have s1 := blk_cell hw' 1
      have s2 := blk_cell hw' 2
      have s3 := blk_cell hw' 3
      have s4 := blk_cell hw' 4
      have s5 := blk_cell hw' 5
      go_simp
      with_reducible rfl
    rotate_left
    · simp only [Act.put, List.setIfInBounds_toArray, List.set_cons_zero, List.set_cons_succ]
      rfl
    refine rg_ready [3] (by kernel_rfl) (by simp) ?_
    refine rg_one (i := 3) (N := some 131) (bm 10 127) rfl rfl (by kernel_rfl) (fun K hK => ?_) rg_nil
    have HD := Aside0.mk (hwd.out ▸ HDF.out)
    go_simp
    go_at_call 39
    with_reducible refine (fraGo HD.out pc hp.out).mono ?_
    rintro e wx3r22 ⟨rfl, hs⟩
    have HD1 := Aside0.mk (hs.pick3 [1, 0, 2])
    have hnew := (hs.pick3 [2]).blk
    clear hs
    go_wp2_with fail
    refine hK.out _ _ hnew ?_
    clear hK K
    refine rg_norm (a' := ?_) ?_ ?_
    rotate_left
    · simp only [Act.put, List.setIfInBounds_toArray, List.set_cons_zero, List.set_cons_succ]
      rfl
    clear hHeld
    have hHeld := hnew
    clear hnew
    refine rg_ready [7] (by kernel_rfl) (by simp) ?_
    refine rg_one (i := 7) (N := some 135) (bm 10 255) rfl rfl (by kernel_rfl) (fun K hK => ?_) rg_nil
    go_simp
    go_at_call 48
    with_reducible refine (xGo HD1.out hF pc hp.out).mono ?_
    rintro e wx3x7r22 ⟨rfl, hs⟩
    have HD2 := Aside0.mk (hs.pick3 [1, 0, 2])
    have hnew := (hs.pick3 [2]).blk
    clear hs
    go_wp2_with fail
    refine hK.out _ _ hnew ?_
    clear hK K
    refine rg_norm (a' := ?_) ?_ ?_
    rotate_left
    · simp only [Act.put, List.setIfInBounds_toArray, List.set_cons_zero, List.set_cons_succ]
      rfl
    clear hHeld
    have hHeld := hnew
    clear hnew
    refine rg_take (i := 8) (N := some 136) (v := ?_) (a' := ?_) (bm 10 511) rfl rfl (by kernel_rfl) (fun _ _ _ h => h) hHeld (Or.inl ⟨by rfl, ?_⟩) ?_ ?_
    rotate_left
    · intro w' hw'
      have s1 := blk_cell hw' 1
      have s2 := blk_cell hw' 2
      have s3 := blk_cell hw' 3
      have s4 := blk_cell hw' 4
      have s5 := blk_cell hw' 5
      go_simp
      with_reducible rfl
    rotate_left
    · simp only [Act.put, List.setIfInBounds_toArray, List.set_cons_zero, List.set_cons_succ]
      rfl
    refine rg_take (i := 9) (N := some 6) (v := ?_) (a' := ?_) (bm 10 1023) rfl rfl (by kernel_rfl) (fun _ _ _ h => h) hHeld (Or.inl ⟨by rfl, ?_⟩) ?_ ?_
    rotate_left
    · intro w' hw'
      have s1 := blk_cell hw' 1
      have s2 := blk_cell hw' 2
      have s3 := blk_cell hw' 3
      have s4 := blk_cell hw' 4
      have s5 := blk_cell hw' 5
      go_simp
      with_reducible rfl
    rotate_left
    · simp only [Act.put, List.setIfInBounds_toArray, List.set_cons_zero, List.set_cons_succ]
      rfl
    refine rg_done (by kernel_rfl) ?_
    go_wp2
    go_ret
    exact ⟨rfl, HD2.out.pick3 [0, 1]⟩
  by_cases h9 : wh = 9
  · subst h9
    have e : fDo s ⟨9, f, pc, n, m, v, l⟩ = ((fSet s n v).1, (fSet s n v).2) := rfl
    obtain ⟨s', r1, hp⟩ : ∃ s' r1, fSet s n v = (s', r1) := ⟨_, _, rfl⟩
    obtain ⟨x2, r2, hp2⟩ : ∃ x2 r2, fGet s n = (x2, r2) := ⟨_, _, rfl⟩
    rw [e, hp]
    clear e
    have hp := Aside0.mk hp
    have hp2 := Aside0.mk hp2
    go_enter Try.func26, Try.ntmps26
    go_wp2_with (first
      | (go_at_call 18; go_must ((with_reducible refine (fraGet HS.out n hp2.out).mono ?_); rintro e w1 ⟨rfl, hs⟩; have hb1 := (hs.pick3 [2]).blk; have y3 := blk_cell hb1 3; have HS1 := Aside0.mk (hs.pick3 [1, 0, 2]); clear hs hb1))
      | (go_at_call 49; go_must ((with_reducible refine (xGet HS1.out hF HLC.out n hp2.out).mono ?_); rintro e w2 ⟨rfl, hs⟩; have hb1 := (hs.pick3 [2]).blk; have y3 := blk_cell hb1 3; have HS2 := Aside0.mk (hs.pick3 [1, 0, 2]); clear hs hb1)))
    have HDF := Aside0.mk HS2.out.drew
    have hbd : _ = some (Obj.cells #[.int .i64 9, .int .i64 f, .int .i64 pc, .int .i64 n, .int .i64 m, .int .u64 v, .slice A l.length c] 44 (0, 0)) := (HDF.out.pick3 [2]).blk
    refine rg_startL (n := 24) (S := fun w' => w'.heap[b]? = some (.cells #[.int .i64 9, .int .i64 f, .int .i64 pc, .int .i64 n, .int .i64 m, .int .u64 v, .slice A l.length c] 44 (0, 0))) (bm 24 0) (by kernel_rfl) rfl (by kernel_rfl) (hbd) (fun wd hwd hHeld => ?_)
    refine rg_take (i := 0) (N := some 153) (v := ?_) (a' := ?_) (bm 24 1) rfl rfl (by kernel_rfl) (fun _ _ _ h => h) hHeld (Or.inl ⟨by rfl, ?_⟩) ?_ ?_
    rotate_left
    · intro w' hw'
      have s3 := blk_cell hw' 3
      have s5 := blk_cell hw' 5
      go_simp
      with_reducible rfl
    rotate_left
    · simp only [Act.put, List.setIfInBounds_toArray, List.set_cons_zero, List.set_cons_succ]
      rfl
    refine rg_take (i := 1) (N := some 154) (v := ?_) (a' := ?_) (bm 24 3) rfl rfl (by kernel_rfl) (fun _ _ _ h => h) hHeld (Or.inl ⟨by rfl, ?_⟩) ?_ ?_
    rotate_left
    · intro w' hw'
      have s3 := blk_cell hw' 3
      have s5 := blk_cell hw' 5
      go_simp
      with_reducible rfl
    rotate_left
    · simp only [Act.put, List.setIfInBounds_toArray, List.set_cons_zero, List.set_cons_succ]
      rfl
    refine rg_take (i := 2) (N := some 155) (v := ?_) (a' := ?_) (bm 24 7) rfl rfl (by kernel_rfl) (fun _ _ _ h => h) hHeld (Or.inl ⟨by rfl, ?_⟩) ?_ ?_
    rotate_left
    · intro w' hw'
      have s3 := blk_cell hw' 3
      have s5 := blk_cell hw' 5
      go_simp
      with_reducible rfl
    rotate_left
    · simp only [Act.put, List.setIfInBounds_toArray, List.set_cons_zero, List.set_cons_succ]
      rfl
    refine rg_take (i := 3) (N := some 156) (v := ?_) (a' := ?_) (bm 24 15) rfl rfl (by kernel_rfl) (fun _ _ _ h => h) hHeld (Or.inl ⟨by rfl, ?_⟩) ?_ ?_
    rotate_left
    · intro w' hw'
      have s3 := blk_cell hw' 3
      have s5 := blk_cell hw' 5
      go_simp
      with_reducible rfl
    rotate_left
    · simp only [Act.put, List.setIfInBounds_toArray, List.set_cons_zero, List.set_cons_succ]
      rfl
    refine rg_take (i := 4) (N := some 157) (v := ?_) (a' := ?_) (bm 24 31) rfl rfl (by kernel_rfl) (fun _ _ _ h => h) hHeld (Or.inl ⟨by rfl, ?_⟩) ?_ ?_
    rotate_left
    · intro w' hw'
      have s3 := blk_cell hw' 3
      have s5 := blk_cell hw' 5
      go_simp
      with_reducible rfl
    rotate_left
    · simp only [Act.put, List.setIfInBounds_toArray, List.set_cons_zero, List.set_cons_succ]
      rfl
    refine rg_take (i := 5) (N := some 158) (v := ?_) (a' := ?_) (bm 24 63) rfl rfl (by kernel_rfl) (fun _ _ _ h => h) hHeld (Or.inl ⟨by rfl, ?_⟩) ?_ ?_
    rotate_left
    · intro w' hw'
      have s3 := blk_cell hw' 3
      have s5 := blk_cell hw' 5
      go_simp
      with_reducible rfl
    rotate_left
    · simp only [Act.put, List.setIfInBounds_toArray, List.set_cons_zero, List.set_cons_succ]
      rfl
    refine rg_take (i := 6) (N := some 159) (v := ?_) (a' := ?_) (bm 24 127) rfl rfl (by kernel_rfl) (fun _ _ _ h => h) hHeld (Or.inl ⟨by rfl, ?_⟩) ?_ ?_
    rotate_left
    · intro w' hw'
      have s3 := blk_cell hw' 3
      have s5 := blk_cell hw' 5
      go_simp
      with_reducible rfl
    rotate_left
    · simp only [Act.put, List.setIfInBounds_toArray, List.set_cons_zero, List.set_cons_succ]
      rfl
    refine rg_take (i := 7) (N := some 160) (v := ?_) (a' := ?_) (bm 24 255) rfl rfl (by kernel_rfl) (fun _ _ _ h => h) hHeld (Or.inl ⟨by rfl, ?_⟩) ?_ ?_
    rotate_left
    · intro w' hw'
      have s3 := blk_cell hw' 3
      have s5 := blk_cell hw' 5
      go_simp
      with_reducible rfl
    rotate_left
    · simp only [Act.put, List.setIfInBounds_toArray, List.set_cons_zero, List.set_cons_succ]
      rfl
    refine rg_take (i := 8) (N := some 161) (v := ?_) (a' := ?_) (bm 24 511) rfl rfl (by kernel_rfl) (fun _ _ _ h => h) hHeld (Or.inl ⟨by rfl, ?_⟩) ?_ ?_
    rotate_left
    · intro w' hw'
      have s3 := blk_cell hw' 3
      have s5 := blk_cell hw' 5
      go_simp
      with_reducible rfl
    rotate_left
    · simp only [Act.put, List.setIfInBounds_toArray, List.set_cons_zero, List.set_cons_succ]
      rfl
    refine rg_take (i := 9) (N := some 162) (v := ?_) (a' := ?_) (bm 24 1023) rfl rfl (by kernel_rfl) (fun _ _ _ h => h) hHeld (Or.inl ⟨by rfl, ?_⟩) ?_ ?_
    rotate_left
    · intro w' hw'
      have s3 := blk_cell hw' 3
      have s5 := blk_cell hw' 5
      go_simp
      with_reducible rfl
    rotate_left
    · simp only [Act.put, List.setIfInBounds_toArray, List.set_cons_zero, List.set_cons_succ]
      rfl
    refine rg_take (i := 10) (N := some 163) (v := ?_) (a' := ?_) (bm 24 2047) rfl rfl (by kernel_rfl) (fun _ _ _ h => h) hHeld (Or.inl ⟨by rfl, ?_⟩) ?_ ?_
    rotate_left
    · intro w' hw'
      have s3 := blk_cell hw' 3
      have s5 := blk_cell hw' 5
      go_simp
      with_reducible rfl
    rotate_left
    · simp only [Act.put, List.setIfInBounds_toArray, List.set_cons_zero, List.set_cons_succ]
      rfl
    refine rg_take (i := 11) (N := some 164) (v := ?_) (a' := ?_) (bm 24 4095) rfl rfl (by kernel_rfl) (fun _ _ _ h => h) hHeld (Or.inl ⟨by rfl, ?_⟩) ?_ ?_
    rotate_left
    · intro w' hw'
      have s3 := blk_cell hw' 3
      have s5 := blk_cell hw' 5
      go_simp
      with_reducible rfl
    rotate_left
    · simp only [Act.put, List.setIfInBounds_toArray, List.set_cons_zero, List.set_cons_succ]
      rfl
    refine rg_take (i := 12) (N := some 165) (v := ?_) (a' := ?_) (bm 24 8191) rfl rfl (by kernel_rfl) (fun _ _ _ h => h) hHeld (Or.inl ⟨by rfl, ?_⟩) ?_ ?_
    rotate_left
    · intro w' hw'
      have s3 := blk_cell hw' 3
      have s5 := blk_cell hw' 5
      go_simp
      with_reducible rfl
    rotate_left
    · simp only [Act.put, List.setIfInBounds_toArray, List.set_cons_zero, List.set_cons_succ]
      rfl
    refine rg_take (i := 13) (N := some 166) (v := ?_) (a' := ?_) (bm 24 16383) rfl rfl (by kernel_rfl) (fun _ _ _ h => h) hHeld (Or.inl ⟨by rfl, ?_⟩) ?_ ?_
    rotate_left
    · intro w' hw'
      have s3 := blk_cell hw' 3
      have s5 := blk_cell hw' 5
      go_simp
      with_reducible rfl
    rotate_left
    · simp only [Act.put, List.setIfInBounds_toArray, List.set_cons_zero, List.set_cons_succ]
      rfl
    refine rg_take (i := 15) (N := some 168) (v := ?_) (a' := ?_) (bm 24 49151) rfl rfl (by kernel_rfl) (fun _ _ _ h => h) hHeld (Or.inl ⟨by rfl, ?_⟩) ?_ ?_
    rotate_left
    · intro w' hw'
      have s3 := blk_cell hw' 3
      have s5 := blk_cell hw' 5
      go_simp
      with_reducible rfl
    rotate_left
    · simp only [Act.put, List.setIfInBounds_toArray, List.set_cons_zero, List.set_cons_succ]
      rfl
    refine rg_take (i := 16) (N := some 169) (v := ?_) (a' := ?_) (bm 24 114687) rfl rfl (by kernel_rfl) (fun _ _ _ h => h) hHeld (Or.inl ⟨by rfl, ?_⟩) ?_ ?_
    rotate_left
    · intro w' hw'
      have s3 := blk_cell hw' 3
      have s5 := blk_cell hw' 5
      go_simp
      with_reducible rfl
    rotate_left
    · simp only [Act.put, List.setIfInBounds_toArray, List.set_cons_zero, List.set_cons_succ]
      rfl
    refine rg_take (i := 17) (N := some 170) (v := ?_) (a' := ?_) (bm 24 245759) rfl rfl (by kernel_rfl) (fun _ _ _ h => h) hHeld (Or.inl ⟨by rfl, ?_⟩) ?_ ?_
    rotate_left
    · intro w' hw'
      have s3 := blk_cell hw' 3
      have s5 := blk_cell hw' 5
      go_simp
      with_reducible rfl
    rotate_left
    · simp only [Act.put, List.setIfInBounds_toArray, List.set_cons_zero, List.set_cons_succ]
      rfl
    refine rg_take (i := 18) (N := some 171) (v := ?_) (a' := ?_) (bm 24 507903) rfl rfl (by kernel_rfl) (fun _ _ _ h => h) hHeld (Or.inl ⟨by rfl, ?_⟩) ?_ ?_
    rotate_left
    · intro w' hw'
      have s3 := blk_cell hw' 3
      have s5 := blk_cell hw' 5
      go_simp
      with_reducible rfl
    rotate_left
    · simp only [Act.put, List.setIfInBounds_toArray, List.set_cons_zero, List.set_cons_succ]
      rfl
    refine rg_take (i := 19) (N := some 172) (v := ?_) (a' := ?_) (bm 24 1032191) rfl rfl (by kernel_rfl) (fun _ _ _ h => h) hHeld (Or.inl ⟨by rfl, ?_⟩) ?_ ?_
    rotate_left
    · intro w' hw'
      have s3 := blk_cell hw' 3
      have s5 := blk_cell hw' 5
      go_simp
      with_reducible rfl
    rotate_left
    · simp only [Act.put, List.setIfInBounds_toArray, List.set_cons_zero, List.set_cons_succ]
      rfl
    refine rg_ready [14] (by kernel_rfl) (by simp) ?_
    refine rg_one (i := 14) (N := some 167) (bm 24 1048575) rfl rfl (by kernel_rfl) (fun K hK => ?_) rg_nil
    have HD := Aside0.mk (hwd.out ▸ HDF.out)
    go_simp
    go_at_call 17
    with_reducible refine (fraSet HD.out n v hp.out).mono ?_
    rintro e wx14r26 ⟨rfl, hs⟩
    have HD1 := Aside0.mk (hs.pick3 [1, 0, 2])
    have hnew := (hs.pick3 [2]).blk
    clear hs
    go_wp2_with fail
    refine hK.out _ _ hnew ?_
    clear hK K
    refine rg_norm (a' := ?_) ?_ ?_
    rotate_left
    · simp only [Act.put, List.setIfInBounds_toArray, List.set_cons_zero, List.set_cons_succ]
      rfl
    clear hHeld
    have hHeld := hnew
    clear hnew
    refine rg_ready [20] (by kernel_rfl) (by simp) ?_
    refine rg_one (i := 20) (N := some 173) (bm 24 2097151) rfl rfl (by kernel_rfl) (fun K hK => ?_) rg_nil
    go_simp
    go_at_call 50
    with_reducible refine (xSet HD1.out hF HLC.out n v hp.out).mono ?_
    rintro e wx14x20r26 ⟨rfl, hs⟩
    have HD2 := Aside0.mk (hs.pick3 [1, 0, 2])
    have hnew := (hs.pick3 [2]).blk
    clear hs
    go_wp2_with fail
    refine hK.out _ _ hnew ?_
    clear hK K
    refine rg_norm (a' := ?_) ?_ ?_
    rotate_left
    · simp only [Act.put, List.setIfInBounds_toArray, List.set_cons_zero, List.set_cons_succ]
      rfl
    clear hHeld
    have hHeld := hnew
    clear hnew
    refine rg_take (i := 21) (N := some 174) (v := ?_) (a' := ?_) (bm 24 4194303) rfl rfl (by kernel_rfl) (fun _ _ _ h => h) hHeld (Or.inl ⟨by rfl, ?_⟩) ?_ ?_
    rotate_left
    · intro w' hw'
      have s3 := blk_cell hw' 3
      have s5 := blk_cell hw' 5
      go_simp
      with_reducible rfl
    rotate_left
    · simp only [Act.put, List.setIfInBounds_toArray, List.set_cons_zero, List.set_cons_succ]
      rfl
    refine rg_take (i := 22) (N := some 175) (v := ?_) (a' := ?_) (bm 24 8388607) rfl rfl (by kernel_rfl) (fun _ _ _ h => h) hHeld (Or.inl ⟨by rfl, ?_⟩) ?_ ?_
    rotate_left
    · intro w' hw'
      have s3 := blk_cell hw' 3
      have s5 := blk_cell hw' 5
      go_simp
      with_reducible rfl
    rotate_left
    · simp only [Act.put, List.setIfInBounds_toArray, List.set_cons_zero, List.set_cons_succ]
      rfl
    refine rg_take (i := 23) (N := some 6) (v := ?_) (a' := ?_) (bm 24 16777215) rfl rfl (by kernel_rfl) (fun _ _ _ h => h) hHeld (Or.inl ⟨by rfl, ?_⟩) ?_ ?_
    rotate_left
    · intro w' hw'
      have s3 := blk_cell hw' 3
      have s5 := blk_cell hw' 5
      go_simp
      with_reducible rfl
    rotate_left
    · simp only [Act.put, List.setIfInBounds_toArray, List.set_cons_zero, List.set_cons_succ]
      rfl
    refine rg_done (by kernel_rfl) ?_
    go_wp2
    go_ret
    exact ⟨rfl, HD2.out.pick3 [0, 1]⟩
  · have e : fDo s ⟨wh, f, pc, n, m, v, l⟩ = (s, true) := by unfold fDo; rw [if_neg h01, if_neg h2, if_neg h3, if_neg h45, if_neg h6, if_neg h7, if_neg h8, if_neg h9]
    rw [e]
    clear e
    simp only [not_or] at h01 h45
    have b0 : (wh == 0) = false := beq_eq_false_iff_ne.2 h01.1
    have b1 : (wh == 1) = false := beq_eq_false_iff_ne.2 h01.2
    have b2 : (wh == 2) = false := beq_eq_false_iff_ne.2 h2
    have b3 : (wh == 3) = false := beq_eq_false_iff_ne.2 h3
    have b4 : (wh == 4) = false := beq_eq_false_iff_ne.2 h45.1
    have b5 : (wh == 5) = false := beq_eq_false_iff_ne.2 h45.2
    have b6 : (wh == 6) = false := beq_eq_false_iff_ne.2 h6
    have b7 : (wh == 7) = false := beq_eq_false_iff_ne.2 h7
    have b8 : (wh == 8) = false := beq_eq_false_iff_ne.2 h8
    have b9 : (wh == 9) = false := beq_eq_false_iff_ne.2 h9
    clear h01 h2 h3 h45 h6 h7 h8 h9
    go_enter Try.func26, Try.ntmps26
    go_wp2
    go_ret
    exact ⟨rfl, HS.out.pick3 [0, 1]⟩
end Go.Proofs.Ytbbgkelcdooabaa.G
