/- One thing with a table, and the document's; one thing with globals, and the document's. -/
import Derived.Deep.DeepMust
import Derived.Test.YtjdnkhgpnddncaaTabH
import Derived.Test.YtjdnkhgpnddncaaTabP
namespace Go.Proofs.Ytjdnkhgpnddncaa.G
open Go.RowKit Go.Proofs.YtjdnkhgpnddncaaW.PrintWords Go.Proofs.YtjdnkhgpnddncaaW.PrintLast Go.Proofs.YtjdnkhgpnddncaaW.PrintMore
set_option linter.unusedVariables false
set_option linter.unusedSimpArgs false
section
variable {w0 w : World} {L : List As} {p : Nat} {m : Tb}
theorem tabLenK (hS : SB w0 w (TO p m :: L)) {n : Nat} (hn : m.l.length = n) : Calls Try.prog 14 #[.pointer (some ⟨p, 0, none⟩)] w fun e w' => e = .returned (.int .i64 n) ∧ SB w0 w' (TO p m :: L) := tabLenH (p := p) (m := m) hS hn
theorem tabAtK (hS : SB w0 w (TO p m :: L)) (i : Int) (hi : 0 ≤ i ∧ i < 18446744073709551616) {x t : Int} (h : tAt m.l i = (x, t)) : Calls Try.prog 12 #[.pointer (some ⟨p, 0, none⟩), .int .u64 i] w fun e w' => e = .returned (.tuple #[.int .i64 x, .int .i64 t]) ∧ SB w0 w' (TO p m :: L) := tabAtH (p := p) (m := m) hS i hi h
theorem tabLayK (hS : SB w0 w (TO p m :: L)) (at_ : Int) (ys : List Int) (Ab : Option Addr) (cb : Nat) (ha : okI at_) (hC : Kd.C (Kd.int .i64) w Ab ys.length ys) (hlen : m.l.length ≤ 1000000) {r : Bool} {l' : List Int} (hr : (tLay m.l at_ ys).isSome = r) (hl : (tLay m.l at_ ys).getD m.l = l') :
    Calls Try.prog 10 #[.pointer (some ⟨p, 0, none⟩), .int .i64 at_, .slice Ab ys.length cb] w fun e w' => e = .returned (.bool r) ∧ SB w0 w' (TO p { m with l := l' } :: L) := tabLayG (p := p) (m := m) hS at_ ys Ab cb ha hC hlen hr hl
theorem tabAllK (hS : SB w0 w (TO p m :: L)) (hl : m.l.length ≤ 1000000) {l : List Int} (h : m.l = l) : Calls Try.prog 11 #[.pointer (some ⟨p, 0, none⟩)] w fun e w' => ∃ v, e = .returned v ∧ SB w0 w' (Row (Kd.int .i64) 3 v l :: TO p m :: L) := tabAllH (p := p) (m := m) hS hl h
end
section
variable {w0 w : World} {L : List As} {p : Nat} {l : List S95}
theorem globGetK (hS : SB w0 w (GO p l :: L)) (hl : l.length ≤ 1000000) (i : Int) (hi : okI i) {x : Int} {b : Bool} (h : gGet l i = (x, b)) : Calls Try.prog 20 #[.pointer (some ⟨p, 0, none⟩), .int .i64 i] w fun e w' => e = .returned (.tuple #[.int .u64 x, .bool b]) ∧ SB w0 w' (GO p l :: L) := globGetH (p := p) (l := l) hS hl i hi h
theorem globTypeK (hS : SB w0 w (GO p l :: L)) (hl : l.length ≤ 1000000) (i : Int) (hi : okI i) {t : Int} {b k : Bool} (h : gType l i = (t, b, k)) : Calls Try.prog 18 #[.pointer (some ⟨p, 0, none⟩), .int .i64 i] w fun e w' => e = .returned (.tuple #[.int .u8 t, .bool b, .bool k]) ∧ SB w0 w' (GO p l :: L) := globTypeH (p := p) (l := l) hS hl i hi h
theorem globSetK (hS : SB w0 w (GO p l :: L)) (hl : l.length ≤ 1000000) (i v : Int) (hi : okI i) (hv : 0 ≤ v ∧ v < 18446744073709551616) {r : Int} {l' : List S95} (h : gSet l i v = (r, l')) : Calls Try.prog 19 #[.pointer (some ⟨p, 0, none⟩), .int .i64 i, .int .u64 v] w fun e w' => e = .returned (.int .i64 r) ∧ SB w0 w' (GO p l' :: L) := globSetH (p := p) (l := l) hS hl i v hi hv h
theorem globAddK (hS : SB w0 w (GO p l :: L)) (hl : l.length ≤ 128) (t : Int) (mu : Bool) (v : Int) (ht : 0 ≤ t ∧ t < 256) (hv : 0 ≤ v ∧ v < 18446744073709551616) {x y : Int} {l' : List S95} (h : gAdd l t mu v = (x, y, l')) : Calls Try.prog 16 #[.pointer (some ⟨p, 0, none⟩), .int .u8 t, .bool mu, .int .u64 v] w fun e w' => e = .returned (.tuple #[.int .i64 x, .int .i64 y]) ∧ SB w0 w' (GO p l' :: L) := globAddH (p := p) (l := l) hS hl t mu v ht hv h
theorem globAllK (hS : SB w0 w (GO p l :: L)) (hl : l.length ≤ 1000000) {ys : List Int} (h : l.map S95.f2 = ys) : Calls Try.prog 22 #[.pointer (some ⟨p, 0, none⟩)] w fun e w' => ∃ v, e = .returned v ∧ SB w0 w' (Row (Kd.int .u64) 35 v ys :: GO p l :: L) := globAllH (p := p) (l := l) hS hl h
theorem xgSetK (hS : SB w0 w (XG p l :: L)) (hl : l.length ≤ 1000000) (i v : Int) (hv : 0 ≤ v ∧ v < 18446744073709551616) {r : Int} {l' : List S95} (h : gSet l i v = (r, l')) : Calls Try.prog 36 #[.pointer (some ⟨p, 0, none⟩), .int .i64 i, .int .u64 v] w fun e w' => e = .returned (.int .i64 r) ∧ SB w0 w' (XG p l' :: L) := by
  have := xgSet hS hl i v hv
  rw [h] at this
  exact this
theorem xgAddK (hS : SB w0 w (XG p l :: L)) (hl : l.length ≤ 128) (t : Int) (mu : Bool) (v : Int) (ht : 0 ≤ t ∧ t < 256) (hv : 0 ≤ v ∧ v < 18446744073709551616) {x y : Int} {l' : List S95} (h : gAdd l t mu v = (x, y, l')) : Calls Try.prog 35 #[.pointer (some ⟨p, 0, none⟩), .int .u8 t, .bool mu, .int .u64 v] w fun e w' => e = .returned (.tuple #[.int .i64 x, .int .i64 y]) ∧ SB w0 w' (XG p l' :: L) := by
  have := xgAdd hS hl t mu v ht hv
  rw [h] at this
  exact this
end
theorem frInts {w0 w : World} {L : List As} (HS : SB w0 w L) (A0 A1 : Option Addr) (n c0 c1 : Nat) (l : List Int) (hn : l.length = n) (hC0 : Kd.C (Kd.int .i64) w A0 n l) (hc0 : n ≤ c0) (hC1 : Kd.C (Kd.int .i64) w A1 n l) (hc1 : n ≤ c1) (hl : n ≤ 1000000) :
    Calls Try.prog 15 #[.slice A0 n c0, .slice A1 n c1] w fun e w' => e = .returned (.bool true) ∧ SB w0 w' L := by
  subst hn
  refine (avocetref03_Ints.calls _ A0 c0 l A1 c1 l true w hC0 hc0 hC1 hc1 (ints_self l (by omega))).mono ?_
  rintro e w' ⟨rfl, hb⟩
  exact ⟨rfl, HS.below (by first | exact hb | exact drawn_below hb)⟩
theorem frWords {w0 w : World} {L : List As} (HS : SB w0 w L) (A0 A1 : Option Addr) (n c0 c1 : Nat) (l : List Int) (hn : l.length = n) (hC0 : Kd.C (Kd.int .u64) w A0 n l) (hc0 : n ≤ c0) (hC1 : Kd.C (Kd.int .u64) w A1 n l) (hc1 : n ≤ c1) (hl : n ≤ 1000000) :
    Calls Try.prog 21 #[.slice A0 n c0, .slice A1 n c1] w fun e w' => e = .returned (.bool true) ∧ SB w0 w' L := by
  subst hn
  refine (avocetref14_Words.calls _ A0 c0 l A1 c1 l true w hC0 hc0 hC1 hc1 (words_self l (by omega))).mono ?_
  rintro e w' ⟨rfl, hb⟩
  exact ⟨rfl, HS.below (by first | exact hb | exact drawn_below hb)⟩
def tDo (m : Tb) (o : S40) : Tb := if o.f0 = 1 then { m with l := (tLay m.l o.f1 o.f5).getD m.l } else m
set_option maxHeartbeats 8000000 in
set_option maxRecDepth 100000 in
theorem bothTab {w0 w : World} {L : List As} {p q : Nat} {m : Tb} (hS : SB w0 w (TO p m :: XT q m :: L)) (hlen : m.l.length ≤ 256) (hge : ∀ x ∈ m.l, -1 ≤ x) (o : S40) (A : Option Addr) (c : Nat) (hC : Kd.C (Kd.int .i64) w0 A o.f5.length o.f5) (hc : o.f5.length ≤ c) (hI : okI o.f1) (hV : 0 ≤ o.f2 ∧ o.f2 < 18446744073709551616) (hlen' : (tDo m o).l.length ≤ 256) :
    Calls Try.prog 24 #[.pointer (some ⟨p, 0, none⟩), .pointer (some ⟨q, 0, none⟩), .agg #[.int .i64 o.f0, .int .i64 o.f1, .int .u64 o.f2, .int .u8 o.f3, .bool o.f4, .slice A o.f5.length c]] w fun e w' => e = .returned (.bool true) ∧ SB w0 w' (TO p (tDo m o) :: XT q (tDo m o) :: L) := by
  obtain ⟨wh, at_, v, vt, mu, l⟩ := o
  dsimp only at hC hc hI hV ⊢
  obtain ⟨b, hb, hbx⟩ := (show ∃ b, b = w.heap.size ∧ SB w0 (w.alloc (.cells #[.int .i64 wh, .int .i64 at_, .int .u64 v, .int .u8 vt, .bool mu, .slice A l.length c] 40)) (Box b #[.int .i64 wh, .int .i64 at_, .int .u64 v, .int .u8 vt, .bool mu, .slice A l.length c] 40 :: TO p m :: XT q m :: L) from ⟨_, rfl, hS.box _ 40⟩)
  have HS := Aside0.mk (hbx.pick3 [1, 2, 0])
  have HC := Aside0.mk hC
  have HI := Aside0.mk hI
  have HV := Aside0.mk hV
  have HGE := Aside0.mk hge
  have hb' : w.heap.size = b := hb.symm
  obtain ⟨x, t, hat⟩ : ∃ x t, tAt m.l v = (x, t) := ⟨_, _, rfl⟩
  have HAT := Aside0.mk hat
  obtain ⟨m', hm'⟩ : ∃ m', tDo m ⟨wh, at_, v, vt, mu, l⟩ = m' := ⟨_, rfl⟩
  rw [hm'] at hlen' ⊢
  obtain ⟨n, hn⟩ : ∃ n, m'.l.length = n := ⟨_, rfl⟩
  have HN := Aside0.mk hn
  have hn256 : n ≤ 256 := by rw [← hn]; exact hlen'
  clear hS hbx hC hI hV hge hb hat hn hlen'
  by_cases h1 : wh = 1
  · subst h1
    have e : m' = { m with l := (tLay m.l at_ l).getD m.l } := by rw [← hm']; unfold tDo; exact if_pos rfl
    have HM := Aside0.mk e
    clear hm' e
    obtain ⟨r, hr⟩ : ∃ r, (tLay m.l at_ l).isSome = r := ⟨_, rfl⟩
    obtain ⟨l', hl'⟩ : ∃ l', (tLay m.l at_ l).getD m.l = l' := ⟨_, rfl⟩
    have HR := Aside0.mk hr
    have HL' := Aside0.mk hl'
    have e2 : m' = { m with l := l' } := by rw [HM.out, hl']
    clear hr hl' HM
    subst e2
    go_enter Try.func24, Try.ntmps24
    go_wp2_with (first
      | (go_at_call 12; go_must ((with_reducible refine (tabAtK HS.out v HV.out HAT.out).mono ?_); rintro e w1 ⟨rfl, hs⟩; have hb1 := (hs.pick3 [2]).blk; have y2 := blk_cell hb1 2; have HS1 := Aside0.mk (hs.pick3 [1, 0, 2]); clear hs hb1))
      | (go_at_call 32; go_must ((with_reducible refine (xtAt HS1.out v HV.out HGE.out HAT.out).mono ?_); rintro e w2 ⟨rfl, hs⟩; have HS2 := Aside0.mk (SB.drew (hs.pick3 [1, 0, 2])); clear hs)))
    have hbd : _ = some (Obj.cells #[.int .i64 1, .int .i64 at_, .int .u64 v, .int .u8 vt, .bool mu, .slice A l.length c] 40 (0, 0)) := (HS2.out.pick3 [2]).blk
    refine rg_startL (n := 18) (S := fun w' => w'.heap[b]? = some (.cells #[.int .i64 1, .int .i64 at_, .int .u64 v, .int .u8 vt, .bool mu, .slice A l.length c] 40 (0, 0))) (bm 18 0) (by kernel_rfl) rfl (by kernel_rfl) (hbd) (fun wd hwd hHeld => ?_)
    refine rg_take (i := 0) (N := some 25) (v := ?_) (a' := ?_) (bm 18 1) rfl rfl (by kernel_rfl) (fun _ _ _ h => h) hHeld (Or.inl ⟨by rfl, ?_⟩) ?_ ?_
    rotate_left
    · intro w' hw'
      have s0 := blk_cell hw' 0
      have s1 := blk_cell hw' 1
      have s5 := blk_cell hw' 5
      go_simp
      with_reducible rfl
    rotate_left
    · simp only [Act.put, List.setIfInBounds_toArray, List.set_cons_zero, List.set_cons_succ]
      rfl
    refine rg_take (i := 1) (N := some 26) (v := ?_) (a' := ?_) (bm 18 3) rfl rfl (by kernel_rfl) (fun _ _ _ h => h) hHeld (Or.inl ⟨by rfl, ?_⟩) ?_ ?_
    rotate_left
    · intro w' hw'
      have s0 := blk_cell hw' 0
      have s1 := blk_cell hw' 1
      have s5 := blk_cell hw' 5
      go_simp
      with_reducible rfl
    rotate_left
    · simp only [Act.put, List.setIfInBounds_toArray, List.set_cons_zero, List.set_cons_succ]
      rfl
    refine rg_take (i := 2) (N := some 27) (v := ?_) (a' := ?_) (bm 18 7) rfl rfl (by kernel_rfl) (fun _ _ _ h => h) hHeld (Or.inl ⟨by rfl, ?_⟩) ?_ ?_
    rotate_left
    · intro w' hw'
      have s0 := blk_cell hw' 0
      have s1 := blk_cell hw' 1
      have s5 := blk_cell hw' 5
      go_simp
      with_reducible rfl
    rotate_left
    · simp only [Act.put, List.setIfInBounds_toArray, List.set_cons_zero, List.set_cons_succ]
      rfl
    refine rg_take (i := 3) (N := some 28) (v := ?_) (a' := ?_) (bm 18 15) rfl rfl (by kernel_rfl) (fun _ _ _ h => h) hHeld (Or.inl ⟨by rfl, ?_⟩) ?_ ?_
    rotate_left
    · intro w' hw'
      have s0 := blk_cell hw' 0
      have s1 := blk_cell hw' 1
      have s5 := blk_cell hw' 5
      go_simp
      with_reducible rfl
    rotate_left
    · simp only [Act.put, List.setIfInBounds_toArray, List.set_cons_zero, List.set_cons_succ]
      rfl
    refine rg_take (i := 4) (N := some 29) (v := ?_) (a' := ?_) (bm 18 31) rfl rfl (by kernel_rfl) (fun _ _ _ h => h) hHeld (Or.inl ⟨by rfl, ?_⟩) ?_ ?_
    rotate_left
    · intro w' hw'
      have s0 := blk_cell hw' 0
      have s1 := blk_cell hw' 1
      have s5 := blk_cell hw' 5
      go_simp
      with_reducible rfl
    rotate_left
    · simp only [Act.put, List.setIfInBounds_toArray, List.set_cons_zero, List.set_cons_succ]
      rfl
    refine rg_take (i := 5) (N := some 30) (v := ?_) (a' := ?_) (bm 18 63) rfl rfl (by kernel_rfl) (fun _ _ _ h => h) hHeld (Or.inl ⟨by rfl, ?_⟩) ?_ ?_
    rotate_left
    · intro w' hw'
      have s0 := blk_cell hw' 0
      have s1 := blk_cell hw' 1
      have s5 := blk_cell hw' 5
      go_simp
      with_reducible rfl
    rotate_left
    · simp only [Act.put, List.setIfInBounds_toArray, List.set_cons_zero, List.set_cons_succ]
      rfl
    refine rg_take (i := 6) (N := some 31) (v := ?_) (a' := ?_) (bm 18 127) rfl rfl (by kernel_rfl) (fun _ _ _ h => h) hHeld (Or.inl ⟨by rfl, ?_⟩) ?_ ?_
    rotate_left
    · intro w' hw'
      have s0 := blk_cell hw' 0
      have s1 := blk_cell hw' 1
      have s5 := blk_cell hw' 5
      go_simp
      with_reducible rfl
    rotate_left
    · simp only [Act.put, List.setIfInBounds_toArray, List.set_cons_zero, List.set_cons_succ]
      rfl
    refine rg_take (i := 7) (N := some 32) (v := ?_) (a' := ?_) (bm 18 255) rfl rfl (by kernel_rfl) (fun _ _ _ h => h) hHeld (Or.inl ⟨by rfl, ?_⟩) ?_ ?_
    rotate_left
    · intro w' hw'
      have s0 := blk_cell hw' 0
      have s1 := blk_cell hw' 1
      have s5 := blk_cell hw' 5
      go_simp
      with_reducible rfl
    rotate_left
    · simp only [Act.put, List.setIfInBounds_toArray, List.set_cons_zero, List.set_cons_succ]
      rfl
    refine rg_take (i := 8) (N := some 33) (v := ?_) (a' := ?_) (bm 18 511) rfl rfl (by kernel_rfl) (fun _ _ _ h => h) hHeld (Or.inl ⟨by rfl, ?_⟩) ?_ ?_
    rotate_left
    · intro w' hw'
      have s0 := blk_cell hw' 0
      have s1 := blk_cell hw' 1
      have s5 := blk_cell hw' 5
      go_simp
      with_reducible rfl
    rotate_left
    · simp only [Act.put, List.setIfInBounds_toArray, List.set_cons_zero, List.set_cons_succ]
      rfl
    refine rg_take (i := 10) (N := some 35) (v := ?_) (a' := ?_) (bm 18 1535) rfl rfl (by kernel_rfl) (fun _ _ _ h => h) hHeld (Or.inl ⟨by rfl, ?_⟩) ?_ ?_
    rotate_left
    · intro w' hw'
      have s0 := blk_cell hw' 0
      have s1 := blk_cell hw' 1
      have s5 := blk_cell hw' 5
      go_simp
      with_reducible rfl
    rotate_left
    · simp only [Act.put, List.setIfInBounds_toArray, List.set_cons_zero, List.set_cons_succ]
      rfl
    refine rg_take (i := 11) (N := some 36) (v := ?_) (a' := ?_) (bm 18 3583) rfl rfl (by kernel_rfl) (fun _ _ _ h => h) hHeld (Or.inl ⟨by rfl, ?_⟩) ?_ ?_
    rotate_left
    · intro w' hw'
      have s0 := blk_cell hw' 0
      have s1 := blk_cell hw' 1
      have s5 := blk_cell hw' 5
      go_simp
      with_reducible rfl
    rotate_left
    · simp only [Act.put, List.setIfInBounds_toArray, List.set_cons_zero, List.set_cons_succ]
      rfl
    refine rg_take (i := 12) (N := some 37) (v := ?_) (a' := ?_) (bm 18 7679) rfl rfl (by kernel_rfl) (fun _ _ _ h => h) hHeld (Or.inl ⟨by rfl, ?_⟩) ?_ ?_
    rotate_left
    · intro w' hw'
      have s0 := blk_cell hw' 0
      have s1 := blk_cell hw' 1
      have s5 := blk_cell hw' 5
      go_simp
      with_reducible rfl
    rotate_left
    · simp only [Act.put, List.setIfInBounds_toArray, List.set_cons_zero, List.set_cons_succ]
      rfl
    refine rg_take (i := 13) (N := some 38) (v := ?_) (a' := ?_) (bm 18 15871) rfl rfl (by kernel_rfl) (fun _ _ _ h => h) hHeld (Or.inl ⟨by rfl, ?_⟩) ?_ ?_
    rotate_left
    · intro w' hw'
      have s0 := blk_cell hw' 0
      have s1 := blk_cell hw' 1
      have s5 := blk_cell hw' 5
      go_simp
      with_reducible rfl
    rotate_left
    · simp only [Act.put, List.setIfInBounds_toArray, List.set_cons_zero, List.set_cons_succ]
      rfl
    refine rg_take (i := 14) (N := some 39) (v := ?_) (a' := ?_) (bm 18 32255) rfl rfl (by kernel_rfl) (fun _ _ _ h => h) hHeld (Or.inl ⟨by rfl, ?_⟩) ?_ ?_
    rotate_left
    · intro w' hw'
      have s0 := blk_cell hw' 0
      have s1 := blk_cell hw' 1
      have s5 := blk_cell hw' 5
      go_simp
      with_reducible rfl
    rotate_left
    · simp only [Act.put, List.setIfInBounds_toArray, List.set_cons_zero, List.set_cons_succ]
      rfl
    refine rg_ready [9] (by kernel_rfl) (by simp) ?_
    refine rg_one (i := 9) (N := some 34) (bm 18 32767) rfl rfl (by kernel_rfl) (fun K hK => ?_) rg_nil
    have HD := Aside0.mk (hwd.out ▸ HS2.out)
    go_simp
    go_at_call 10
    with_reducible refine (tabLayK HD.out at_ l A c HI.out (Kd.C_below HC.out HD.out.bel) (by omega) HR.out HL'.out).mono ?_
    rintro e wx9r3 ⟨rfl, hs⟩
    have HD1 := Aside0.mk (hs.pick3 [1, 0, 2])
    have hnew := (hs.pick3 [2]).blk
    clear hs
    go_wp2_with fail
    refine hK.out _ _ hnew ?_
    clear hK K
    refine rg_norm (a' := ?_) ?_ ?_
    rotate_left
    · simp only [Act.put, List.setIfInBounds_toArray, List.set_cons_zero, List.set_cons_succ]
      rfl
    clear hHeld
    have hHeld := hnew
    clear hnew
    refine rg_ready [15] (by kernel_rfl) (by simp) ?_
    refine rg_one (i := 15) (N := some 40) (bm 18 65535) rfl rfl (by kernel_rfl) (fun K hK => ?_) rg_nil
    go_simp
    go_at_call 33
    with_reducible refine (xtLay HD1.out at_ l A c HI.out HC.out (by omega) HR.out HL'.out).mono ?_
    rintro e wx9x15r3 ⟨rfl, hs⟩
    have HD2 := Aside0.mk (hs.pick3 [1, 0, 2])
    have hnew := (hs.pick3 [2]).blk
    clear hs
    go_wp2_with fail
    refine hK.out _ _ hnew ?_
    clear hK K
    refine rg_norm (a' := ?_) ?_ ?_
    rotate_left
    · simp only [Act.put, List.setIfInBounds_toArray, List.set_cons_zero, List.set_cons_succ]
      rfl
    clear hHeld
    have hHeld := hnew
    clear hnew
    refine rg_take (i := 16) (N := some 41) (v := ?_) (a' := ?_) (bm 18 131071) rfl rfl (by kernel_rfl) (fun _ _ _ h => h) hHeld (Or.inl ⟨by rfl, ?_⟩) ?_ ?_
    rotate_left
    · intro w' hw'
      have s0 := blk_cell hw' 0
      have s1 := blk_cell hw' 1
      have s5 := blk_cell hw' 5
      go_simp
      with_reducible rfl
    rotate_left
    · simp only [Act.put, List.setIfInBounds_toArray, List.set_cons_zero, List.set_cons_succ]
      rfl
    refine rg_take (i := 17) (N := some 42) (v := ?_) (a' := ?_) (bm 18 262143) rfl rfl (by kernel_rfl) (fun _ _ _ h => h) hHeld (Or.inl ⟨by rfl, ?_⟩) ?_ ?_
    rotate_left
    · intro w' hw'
      have s0 := blk_cell hw' 0
      have s1 := blk_cell hw' 1
      have s5 := blk_cell hw' 5
      go_simp
      with_reducible rfl
    rotate_left
    · simp only [Act.put, List.setIfInBounds_toArray, List.set_cons_zero, List.set_cons_succ]
      rfl
    refine rg_done (by kernel_rfl) ?_
    go_wp2
    obtain ⟨A5, c5, hc5, h5⟩ := SB.obOpen (HD2.out.pick2 [1, 0])
    rw [HN.out] at h5 hc5
    have HDE := Aside0.mk (h5.drew.pick4 [2, 0, 1, 3])
    have hbq : _ = some (Obj.cells #[.slice A5 n c5, .int .i64 m.lo, .int .i64 m.hi, .bool m.has] 88 (0, 0)) := (HDE.out.pick2 [1]).blk
    clear h5
    refine rg_startL (n := 37) (S := fun w' => w'.heap[q]? = some (.cells #[.slice A5 n c5, .int .i64 m.lo, .int .i64 m.hi, .bool m.has] 88 (0, 0))) (bm 37 0) (by kernel_rfl) rfl (by kernel_rfl) (hbq) (fun we hwe hHeld => ?_)
    refine rg_take (i := 0) (N := some 43) (v := ?_) (a' := ?_) (bm 37 1) rfl rfl (by kernel_rfl) (fun _ _ _ h => h) hHeld (Or.inl ⟨by rfl, ?_⟩) ?_ ?_
    rotate_left
    · intro w' hw'
      have s0 := blk_cell hw' 0
      have s1 := blk_cell hw' 1
      have s2 := blk_cell hw' 2
      have s3 := blk_cell hw' 3
      go_simp
      with_reducible rfl
    rotate_left
    · simp only [Act.put, List.setIfInBounds_toArray, List.set_cons_zero, List.set_cons_succ]
      rfl
    refine rg_take (i := 1) (N := some 44) (v := ?_) (a' := ?_) (bm 37 3) rfl rfl (by kernel_rfl) (fun _ _ _ h => h) hHeld (Or.inl ⟨by rfl, ?_⟩) ?_ ?_
    rotate_left
    · intro w' hw'
      have s0 := blk_cell hw' 0
      have s1 := blk_cell hw' 1
      have s2 := blk_cell hw' 2
      have s3 := blk_cell hw' 3
      go_simp
      with_reducible rfl
    rotate_left
    · simp only [Act.put, List.setIfInBounds_toArray, List.set_cons_zero, List.set_cons_succ]
      rfl
    refine rg_take (i := 2) (N := some 45) (v := ?_) (a' := ?_) (bm 37 7) rfl rfl (by kernel_rfl) (fun _ _ _ h => h) hHeld (Or.inl ⟨by rfl, ?_⟩) ?_ ?_
    rotate_left
    · intro w' hw'
      have s0 := blk_cell hw' 0
      have s1 := blk_cell hw' 1
      have s2 := blk_cell hw' 2
      have s3 := blk_cell hw' 3
      go_simp
      with_reducible rfl
    rotate_left
    · simp only [Act.put, List.setIfInBounds_toArray, List.set_cons_zero, List.set_cons_succ]
      rfl
    refine rg_take (i := 3) (N := some 46) (v := ?_) (a' := ?_) (bm 37 15) rfl rfl (by kernel_rfl) (fun _ _ _ h => h) hHeld (Or.inl ⟨by rfl, ?_⟩) ?_ ?_
    rotate_left
    · intro w' hw'
      have s0 := blk_cell hw' 0
      have s1 := blk_cell hw' 1
      have s2 := blk_cell hw' 2
      have s3 := blk_cell hw' 3
      go_simp
      with_reducible rfl
    rotate_left
    · simp only [Act.put, List.setIfInBounds_toArray, List.set_cons_zero, List.set_cons_succ]
      rfl
    refine rg_take (i := 4) (N := some 47) (v := ?_) (a' := ?_) (bm 37 31) rfl rfl (by kernel_rfl) (fun _ _ _ h => h) hHeld (Or.inl ⟨by rfl, ?_⟩) ?_ ?_
    rotate_left
    · intro w' hw'
      have s0 := blk_cell hw' 0
      have s1 := blk_cell hw' 1
      have s2 := blk_cell hw' 2
      have s3 := blk_cell hw' 3
      go_simp
      with_reducible rfl
    rotate_left
    · simp only [Act.put, List.setIfInBounds_toArray, List.set_cons_zero, List.set_cons_succ]
      rfl
    refine rg_take (i := 5) (N := some 48) (v := ?_) (a' := ?_) (bm 37 63) rfl rfl (by kernel_rfl) (fun _ _ _ h => h) hHeld (Or.inl ⟨by rfl, ?_⟩) ?_ ?_
    rotate_left
    · intro w' hw'
      have s0 := blk_cell hw' 0
      have s1 := blk_cell hw' 1
      have s2 := blk_cell hw' 2
      have s3 := blk_cell hw' 3
      go_simp
      with_reducible rfl
    rotate_left
    · simp only [Act.put, List.setIfInBounds_toArray, List.set_cons_zero, List.set_cons_succ]
      rfl
    refine rg_take (i := 6) (N := some 49) (v := ?_) (a' := ?_) (bm 37 127) rfl rfl (by kernel_rfl) (fun _ _ _ h => h) hHeld (Or.inl ⟨by rfl, ?_⟩) ?_ ?_
    rotate_left
    · intro w' hw'
      have s0 := blk_cell hw' 0
      have s1 := blk_cell hw' 1
      have s2 := blk_cell hw' 2
      have s3 := blk_cell hw' 3
      go_simp
      with_reducible rfl
    rotate_left
    · simp only [Act.put, List.setIfInBounds_toArray, List.set_cons_zero, List.set_cons_succ]
      rfl
    refine rg_take (i := 7) (N := some 50) (v := ?_) (a' := ?_) (bm 37 255) rfl rfl (by kernel_rfl) (fun _ _ _ h => h) hHeld (Or.inl ⟨by rfl, ?_⟩) ?_ ?_
    rotate_left
    · intro w' hw'
      have s0 := blk_cell hw' 0
      have s1 := blk_cell hw' 1
      have s2 := blk_cell hw' 2
      have s3 := blk_cell hw' 3
      go_simp
      with_reducible rfl
    rotate_left
    · simp only [Act.put, List.setIfInBounds_toArray, List.set_cons_zero, List.set_cons_succ]
      rfl
    refine rg_take (i := 8) (N := some 51) (v := ?_) (a' := ?_) (bm 37 511) rfl rfl (by kernel_rfl) (fun _ _ _ h => h) hHeld (Or.inl ⟨by rfl, ?_⟩) ?_ ?_
    rotate_left
    · intro w' hw'
      have s0 := blk_cell hw' 0
      have s1 := blk_cell hw' 1
      have s2 := blk_cell hw' 2
      have s3 := blk_cell hw' 3
      go_simp
      with_reducible rfl
    rotate_left
    · simp only [Act.put, List.setIfInBounds_toArray, List.set_cons_zero, List.set_cons_succ]
      rfl
    refine rg_take (i := 9) (N := some 52) (v := ?_) (a' := ?_) (bm 37 1023) rfl rfl (by kernel_rfl) (fun _ _ _ h => h) hHeld (Or.inl ⟨by rfl, ?_⟩) ?_ ?_
    rotate_left
    · intro w' hw'
      have s0 := blk_cell hw' 0
      have s1 := blk_cell hw' 1
      have s2 := blk_cell hw' 2
      have s3 := blk_cell hw' 3
      go_simp
      with_reducible rfl
    rotate_left
    · simp only [Act.put, List.setIfInBounds_toArray, List.set_cons_zero, List.set_cons_succ]
      rfl
    refine rg_take (i := 11) (N := some 54) (v := ?_) (a' := ?_) (bm 37 3071) rfl rfl (by kernel_rfl) (fun _ _ _ h => h) hHeld (Or.inl ⟨by rfl, ?_⟩) ?_ ?_
    rotate_left
    · intro w' hw'
      have s0 := blk_cell hw' 0
      have s1 := blk_cell hw' 1
      have s2 := blk_cell hw' 2
      have s3 := blk_cell hw' 3
      go_simp
      with_reducible rfl
    rotate_left
    · simp only [Act.put, List.setIfInBounds_toArray, List.set_cons_zero, List.set_cons_succ]
      rfl
    refine rg_take (i := 12) (N := some 55) (v := ?_) (a' := ?_) (bm 37 7167) rfl rfl (by kernel_rfl) (fun _ _ _ h => h) hHeld (Or.inl ⟨by rfl, ?_⟩) ?_ ?_
    rotate_left
    · intro w' hw'
      have s0 := blk_cell hw' 0
      have s1 := blk_cell hw' 1
      have s2 := blk_cell hw' 2
      have s3 := blk_cell hw' 3
      go_simp
      with_reducible rfl
    rotate_left
    · simp only [Act.put, List.setIfInBounds_toArray, List.set_cons_zero, List.set_cons_succ]
      rfl
    refine rg_take (i := 13) (N := some 56) (v := ?_) (a' := ?_) (bm 37 15359) rfl rfl (by kernel_rfl) (fun _ _ _ h => h) hHeld (Or.inl ⟨by rfl, ?_⟩) ?_ ?_
    rotate_left
    · intro w' hw'
      have s0 := blk_cell hw' 0
      have s1 := blk_cell hw' 1
      have s2 := blk_cell hw' 2
      have s3 := blk_cell hw' 3
      go_simp
      with_reducible rfl
    rotate_left
    · simp only [Act.put, List.setIfInBounds_toArray, List.set_cons_zero, List.set_cons_succ]
      rfl
    refine rg_take (i := 14) (N := some 57) (v := ?_) (a' := ?_) (bm 37 31743) rfl rfl (by kernel_rfl) (fun _ _ _ h => h) hHeld (Or.inl ⟨by rfl, ?_⟩) ?_ ?_
    rotate_left
    · intro w' hw'
      have s0 := blk_cell hw' 0
      have s1 := blk_cell hw' 1
      have s2 := blk_cell hw' 2
      have s3 := blk_cell hw' 3
      go_simp
      with_reducible rfl
    rotate_left
    · simp only [Act.put, List.setIfInBounds_toArray, List.set_cons_zero, List.set_cons_succ]
      rfl
    refine rg_ready [10] (by kernel_rfl) (by simp) ?_
    refine rg_one (i := 10) (N := some 53) (bm 37 32767) rfl rfl (by kernel_rfl) (fun K hK => ?_) rg_nil
    have HE := Aside0.mk (hwe.out ▸ HDE.out)
    go_simp
    go_at_call 11
    with_reducible refine (tabAllK HE.out (by rw [HN.out]; omega) rfl).mono ?_
    rintro e wx10r5 ⟨v10, rfl, hs⟩
    obtain ⟨A10, c10, rfl, hc10, _⟩ := hs.reads
    rw [HN.out] at hs hc10 ⊢
    have hnew := (hs.pick3 [2]).blk
    have HE10 := Aside0.mk hs
    clear hs
    go_wp2_with fail
    refine hK.out _ _ hnew ?_
    clear hK K
    refine rg_norm (a' := ?_) ?_ ?_
    rotate_left
    · simp only [Act.put, List.setIfInBounds_toArray, List.set_cons_zero, List.set_cons_succ]
      rfl
    clear hHeld
    have hHeld := hnew
    clear hnew
    refine rg_ready [15] (by kernel_rfl) (by simp) ?_
    refine rg_one (i := 15) (N := some 58) (bm 37 65535) rfl rfl (by kernel_rfl) (fun K hK => ?_) rg_nil
    obtain ⟨Aa, ca, ea, _, hCa⟩ := HE10.out.reads
    obtain ⟨Ab, cb, eb, _, hCb⟩ := (HE10.out.pick4 [3]).reads
    injection ea with ea1 ea2 ea3
    injection eb with eb1 eb2 eb3
    clear ea2 ea3 eb2 eb3
    subst ea1 eb1
    rw [HN.out] at hCa hCb
    have HCa := Aside0.mk hCa
    have HCb := Aside0.mk hCb
    clear hCa hCb
    go_simp
    go_at_call 15
    with_reducible refine (frInts HE10.out A10 A5 n c10 c5 _ HN.out HCa.out hc10 HCb.out hc5 (by omega)).mono ?_
    rintro e wx10x15r5 ⟨rfl, hs⟩
    have hnew := (hs.pick3 [2]).blk
    have HE15 := Aside0.mk hs.drop
    clear hs
    go_wp2_with fail
    refine hK.out _ _ hnew ?_
    clear hK K
    refine rg_norm (a' := ?_) ?_ ?_
    rotate_left
    · simp only [Act.put, List.setIfInBounds_toArray, List.set_cons_zero, List.set_cons_succ]
      rfl
    clear hHeld
    have hHeld := hnew
    clear hnew
    refine rg_take (i := 16) (N := some 59) (v := ?_) (a' := ?_) (bm 37 131071) rfl rfl (by kernel_rfl) (fun _ _ _ h => h) hHeld (Or.inl ⟨by rfl, ?_⟩) ?_ ?_
    rotate_left
    · intro w' hw'
      have s0 := blk_cell hw' 0
      have s1 := blk_cell hw' 1
      have s2 := blk_cell hw' 2
      have s3 := blk_cell hw' 3
      go_simp
      with_reducible rfl
    rotate_left
    · simp only [Act.put, List.setIfInBounds_toArray, List.set_cons_zero, List.set_cons_succ]
      rfl
    refine rg_take (i := 17) (N := some 60) (v := ?_) (a' := ?_) (bm 37 262143) rfl rfl (by kernel_rfl) (fun _ _ _ h => h) hHeld (Or.inl ⟨by rfl, ?_⟩) ?_ ?_
    rotate_left
    · intro w' hw'
      have s0 := blk_cell hw' 0
      have s1 := blk_cell hw' 1
      have s2 := blk_cell hw' 2
      have s3 := blk_cell hw' 3
      go_simp
      with_reducible rfl
    rotate_left
    · simp only [Act.put, List.setIfInBounds_toArray, List.set_cons_zero, List.set_cons_succ]
      rfl
    refine rg_take (i := 18) (N := some 61) (v := ?_) (a' := ?_) (bm 37 524287) rfl rfl (by kernel_rfl) (fun _ _ _ h => h) hHeld (Or.inl ⟨by rfl, ?_⟩) ?_ ?_
    rotate_left
    · intro w' hw'
      have s0 := blk_cell hw' 0
      have s1 := blk_cell hw' 1
      have s2 := blk_cell hw' 2
      have s3 := blk_cell hw' 3
      go_simp
      with_reducible rfl
    rotate_left
    · simp only [Act.put, List.setIfInBounds_toArray, List.set_cons_zero, List.set_cons_succ]
      rfl
    refine rg_take (i := 20) (N := some 63) (v := ?_) (a' := ?_) (bm 37 1572863) rfl rfl (by kernel_rfl) (fun _ _ _ h => h) hHeld (Or.inl ⟨by rfl, ?_⟩) ?_ ?_
    rotate_left
    · intro w' hw'
      have s0 := blk_cell hw' 0
      have s1 := blk_cell hw' 1
      have s2 := blk_cell hw' 2
      have s3 := blk_cell hw' 3
      go_simp
      with_reducible rfl
    rotate_left
    · simp only [Act.put, List.setIfInBounds_toArray, List.set_cons_zero, List.set_cons_succ]
      rfl
    refine rg_take (i := 21) (N := some 64) (v := ?_) (a' := ?_) (bm 37 3670015) rfl rfl (by kernel_rfl) (fun _ _ _ h => h) hHeld (Or.inl ⟨by rfl, ?_⟩) ?_ ?_
    rotate_left
    · intro w' hw'
      have s0 := blk_cell hw' 0
      have s1 := blk_cell hw' 1
      have s2 := blk_cell hw' 2
      have s3 := blk_cell hw' 3
      go_simp
      with_reducible rfl
    rotate_left
    · simp only [Act.put, List.setIfInBounds_toArray, List.set_cons_zero, List.set_cons_succ]
      rfl
    refine rg_take (i := 22) (N := some 65) (v := ?_) (a' := ?_) (bm 37 7864319) rfl rfl (by kernel_rfl) (fun _ _ _ h => h) hHeld (Or.inl ⟨by rfl, ?_⟩) ?_ ?_
    rotate_left
    · intro w' hw'
      have s0 := blk_cell hw' 0
      have s1 := blk_cell hw' 1
      have s2 := blk_cell hw' 2
      have s3 := blk_cell hw' 3
      go_simp
      with_reducible rfl
    rotate_left
    · simp only [Act.put, List.setIfInBounds_toArray, List.set_cons_zero, List.set_cons_succ]
      rfl
    refine rg_take (i := 23) (N := some 66) (v := ?_) (a' := ?_) (bm 37 16252927) rfl rfl (by kernel_rfl) (fun _ _ _ h => h) hHeld (Or.inl ⟨by rfl, ?_⟩) ?_ ?_
    rotate_left
    · intro w' hw'
      have s0 := blk_cell hw' 0
      have s1 := blk_cell hw' 1
      have s2 := blk_cell hw' 2
      have s3 := blk_cell hw' 3
      go_simp
      with_reducible rfl
    rotate_left
    · simp only [Act.put, List.setIfInBounds_toArray, List.set_cons_zero, List.set_cons_succ]
      rfl
    refine rg_take (i := 24) (N := some 67) (v := ?_) (a' := ?_) (bm 37 33030143) rfl rfl (by kernel_rfl) (fun _ _ _ h => h) hHeld (Or.inl ⟨by rfl, ?_⟩) ?_ ?_
    rotate_left
    · intro w' hw'
      have s0 := blk_cell hw' 0
      have s1 := blk_cell hw' 1
      have s2 := blk_cell hw' 2
      have s3 := blk_cell hw' 3
      go_simp
      with_reducible rfl
    rotate_left
    · simp only [Act.put, List.setIfInBounds_toArray, List.set_cons_zero, List.set_cons_succ]
      rfl
    refine rg_ready [19] (by kernel_rfl) (by simp) ?_
    refine rg_one (i := 19) (N := some 62) (bm 37 33554431) rfl rfl (by kernel_rfl) (fun K hK => ?_) rg_nil
    go_simp
    go_at_call 14
    with_reducible refine (tabLenK HE15.out HN.out).mono ?_
    rintro e wx10x15x19r5 ⟨rfl, hs⟩
    have hnew := (hs.pick2 [1]).blk
    have HE19 := Aside0.mk hs
    clear hs
    go_wp2_with fail
    refine hK.out _ _ hnew ?_
    clear hK K
    refine rg_norm (a' := ?_) ?_ ?_
    rotate_left
    · simp only [Act.put, List.setIfInBounds_toArray, List.set_cons_zero, List.set_cons_succ]
      rfl
    clear hHeld
    have hHeld := hnew
    clear hnew
    refine rg_take (i := 25) (N := some 68) (v := ?_) (a' := ?_) (bm 37 67108863) rfl rfl (by kernel_rfl) (fun _ _ _ h => h) hHeld (Or.inl ⟨by rfl, ?_⟩) ?_ ?_
    rotate_left
    · intro w' hw'
      have s0 := blk_cell hw' 0
      have s1 := blk_cell hw' 1
      have s2 := blk_cell hw' 2
      have s3 := blk_cell hw' 3
      go_simp
      with_reducible rfl
    rotate_left
    · simp only [Act.put, List.setIfInBounds_toArray, List.set_cons_zero, List.set_cons_succ]
      rfl
    refine rg_take (i := 26) (N := some 69) (v := ?_) (a' := ?_) (bm 37 134217727) rfl rfl (by kernel_rfl) (fun _ _ _ h => h) hHeld (Or.inl ⟨by rfl, ?_⟩) ?_ ?_
    rotate_left
    · intro w' hw'
      have s0 := blk_cell hw' 0
      have s1 := blk_cell hw' 1
      have s2 := blk_cell hw' 2
      have s3 := blk_cell hw' 3
      go_simp
      with_reducible rfl
    rotate_left
    · simp only [Act.put, List.setIfInBounds_toArray, List.set_cons_zero, List.set_cons_succ]
      rfl
    refine rg_take (i := 27) (N := some 70) (v := ?_) (a' := ?_) (bm 37 268435455) rfl rfl (by kernel_rfl) (fun _ _ _ h => h) hHeld (Or.inl ⟨by rfl, ?_⟩) ?_ ?_
    rotate_left
    · intro w' hw'
      have s0 := blk_cell hw' 0
      have s1 := blk_cell hw' 1
      have s2 := blk_cell hw' 2
      have s3 := blk_cell hw' 3
      go_simp
      with_reducible rfl
    rotate_left
    · simp only [Act.put, List.setIfInBounds_toArray, List.set_cons_zero, List.set_cons_succ]
      rfl
    refine rg_take (i := 28) (N := some 71) (v := ?_) (a' := ?_) (bm 37 536870911) rfl rfl (by kernel_rfl) (fun _ _ _ h => h) hHeld (Or.inl ⟨by rfl, ?_⟩) ?_ ?_
    rotate_left
    · intro w' hw'
      have s0 := blk_cell hw' 0
      have s1 := blk_cell hw' 1
      have s2 := blk_cell hw' 2
      have s3 := blk_cell hw' 3
      go_simp
      with_reducible rfl
    rotate_left
    · simp only [Act.put, List.setIfInBounds_toArray, List.set_cons_zero, List.set_cons_succ]
      rfl
    refine rg_take (i := 30) (N := some 73) (v := ?_) (a' := ?_) (bm 37 1610612735) rfl rfl (by kernel_rfl) (fun _ _ _ h => h) hHeld (Or.inl ⟨by rfl, ?_⟩) ?_ ?_
    rotate_left
    · intro w' hw'
      have s0 := blk_cell hw' 0
      have s1 := blk_cell hw' 1
      have s2 := blk_cell hw' 2
      have s3 := blk_cell hw' 3
      go_simp
      with_reducible rfl
    rotate_left
    · simp only [Act.put, List.setIfInBounds_toArray, List.set_cons_zero, List.set_cons_succ]
      rfl
    refine rg_take (i := 31) (N := some 74) (v := ?_) (a' := ?_) (bm 37 3758096383) rfl rfl (by kernel_rfl) (fun _ _ _ h => h) hHeld (Or.inl ⟨by rfl, ?_⟩) ?_ ?_
    rotate_left
    · intro w' hw'
      have s0 := blk_cell hw' 0
      have s1 := blk_cell hw' 1
      have s2 := blk_cell hw' 2
      have s3 := blk_cell hw' 3
      go_simp
      with_reducible rfl
    rotate_left
    · simp only [Act.put, List.setIfInBounds_toArray, List.set_cons_zero, List.set_cons_succ]
      rfl
    refine rg_take (i := 32) (N := some 75) (v := ?_) (a' := ?_) (bm 37 8053063679) rfl rfl (by kernel_rfl) (fun _ _ _ h => h) hHeld (Or.inl ⟨by rfl, ?_⟩) ?_ ?_
    rotate_left
    · intro w' hw'
      have s0 := blk_cell hw' 0
      have s1 := blk_cell hw' 1
      have s2 := blk_cell hw' 2
      have s3 := blk_cell hw' 3
      go_simp
      with_reducible rfl
    rotate_left
    · simp only [Act.put, List.setIfInBounds_toArray, List.set_cons_zero, List.set_cons_succ]
      rfl
    refine rg_take (i := 33) (N := some 76) (v := ?_) (a' := ?_) (bm 37 16642998271) rfl rfl (by kernel_rfl) (fun _ _ _ h => h) hHeld (Or.inl ⟨by rfl, ?_⟩) ?_ ?_
    rotate_left
    · intro w' hw'
      have s0 := blk_cell hw' 0
      have s1 := blk_cell hw' 1
      have s2 := blk_cell hw' 2
      have s3 := blk_cell hw' 3
      go_simp
      with_reducible rfl
    rotate_left
    · simp only [Act.put, List.setIfInBounds_toArray, List.set_cons_zero, List.set_cons_succ]
      rfl
    refine rg_ready [29] (by kernel_rfl) (by simp) ?_
    refine rg_one (i := 29) (N := some 72) (bm 37 17179869183) rfl rfl (by kernel_rfl) (fun K hK => ?_) rg_nil
    go_simp
    go_at_call 34
    with_reducible refine (tabLimits HE19.out).mono ?_
    rintro e wx10x15x19x29r5 ⟨rfl, hs⟩
    have hnew := (hs.pick2 [1]).blk
    have HE29 := Aside0.mk hs
    clear hs
    go_wp2_with fail
    refine hK.out _ _ hnew ?_
    clear hK K
    refine rg_norm (a' := ?_) ?_ ?_
    rotate_left
    · simp only [Act.put, List.setIfInBounds_toArray, List.set_cons_zero, List.set_cons_succ]
      rfl
    clear hHeld
    have hHeld := hnew
    clear hnew
    refine rg_take (i := 34) (N := some 77) (v := ?_) (a' := ?_) (bm 37 34359738367) rfl rfl (by kernel_rfl) (fun _ _ _ h => h) hHeld (Or.inl ⟨by rfl, ?_⟩) ?_ ?_
    rotate_left
    · intro w' hw'
      have s0 := blk_cell hw' 0
      have s1 := blk_cell hw' 1
      have s2 := blk_cell hw' 2
      have s3 := blk_cell hw' 3
      go_simp
      with_reducible rfl
    rotate_left
    · simp only [Act.put, List.setIfInBounds_toArray, List.set_cons_zero, List.set_cons_succ]
      rfl
    refine rg_take (i := 35) (N := some 78) (v := ?_) (a' := ?_) (bm 37 68719476735) rfl rfl (by kernel_rfl) (fun _ _ _ h => h) hHeld (Or.inl ⟨by rfl, ?_⟩) ?_ ?_
    rotate_left
    · intro w' hw'
      have s0 := blk_cell hw' 0
      have s1 := blk_cell hw' 1
      have s2 := blk_cell hw' 2
      have s3 := blk_cell hw' 3
      go_simp
      with_reducible rfl
    rotate_left
    · simp only [Act.put, List.setIfInBounds_toArray, List.set_cons_zero, List.set_cons_succ]
      rfl
    refine rg_take (i := 36) (N := some 6) (v := ?_) (a' := ?_) (bm 37 137438953471) rfl rfl (by kernel_rfl) (fun _ _ _ h => h) hHeld (Or.inl ⟨by rfl, ?_⟩) ?_ ?_
    rotate_left
    · intro w' hw'
      have s0 := blk_cell hw' 0
      have s1 := blk_cell hw' 1
      have s2 := blk_cell hw' 2
      have s3 := blk_cell hw' 3
      go_simp
      with_reducible rfl
    rotate_left
    · simp only [Act.put, List.setIfInBounds_toArray, List.set_cons_zero, List.set_cons_succ]
      rfl
    refine rg_done (by kernel_rfl) ?_
    go_wp2
    go_ret
    have h30 := HE29.out.pick4 [1, 2, 0]
    rw [← HN.out] at h30
    exact ⟨rfl, (SB.obClose h30).swap⟩
  · have e : m' = m := by rw [← hm']; unfold tDo; exact if_neg h1
    subst e
    have b1 : (wh == 1) = false := beq_eq_false_iff_ne.2 h1
    clear hm' h1
    go_enter Try.func24, Try.ntmps24
    go_wp2_with (first
      | (go_at_call 12; go_must ((with_reducible refine (tabAtK HS.out v HV.out HAT.out).mono ?_); rintro e w1 ⟨rfl, hs⟩; have hb1 := (hs.pick3 [2]).blk; have y2 := blk_cell hb1 2; have HS1 := Aside0.mk (hs.pick3 [1, 0, 2]); clear hs hb1))
      | (go_at_call 32; go_must ((with_reducible refine (xtAt HS1.out v HV.out HGE.out HAT.out).mono ?_); rintro e w2 ⟨rfl, hs⟩; have hb1 := (hs.pick3 [2]).blk; have z0 := blk_cell hb1 0; have HS2 := Aside0.mk (hs.pick3 [1, 0, 2]); clear hs hb1)))
    go_quiet (fail)
    go_wp2
    have HS3 := Aside0.mk (HS2.out.drewN nq)
    clear HS2 HS1 HS
    obtain ⟨A5, c5, hc5, h5⟩ := SB.obOpen (HS3.out.pick2 [1, 0])
    rw [HN.out] at h5 hc5
    have HDE := Aside0.mk (h5.drew.pick4 [2, 0, 1, 3])
    have hbq : _ = some (Obj.cells #[.slice A5 n c5, .int .i64 m'.lo, .int .i64 m'.hi, .bool m'.has] 88 (0, 0)) := (HDE.out.pick2 [1]).blk
    clear h5
    refine rg_startL (n := 37) (S := fun w' => w'.heap[q]? = some (.cells #[.slice A5 n c5, .int .i64 m'.lo, .int .i64 m'.hi, .bool m'.has] 88 (0, 0))) (bm 37 0) (by kernel_rfl) rfl (by kernel_rfl) (hbq) (fun wd hwd hHeld => ?_)
    refine rg_take (i := 0) (N := some 43) (v := ?_) (a' := ?_) (bm 37 1) rfl rfl (by kernel_rfl) (fun _ _ _ h => h) hHeld (Or.inl ⟨by rfl, ?_⟩) ?_ ?_
    rotate_left
    · intro w' hw'
      have s0 := blk_cell hw' 0
      have s1 := blk_cell hw' 1
      have s2 := blk_cell hw' 2
      have s3 := blk_cell hw' 3
      go_simp
      with_reducible rfl
    rotate_left
    · simp only [Act.put, List.setIfInBounds_toArray, List.set_cons_zero, List.set_cons_succ]
      rfl
    refine rg_take (i := 1) (N := some 44) (v := ?_) (a' := ?_) (bm 37 3) rfl rfl (by kernel_rfl) (fun _ _ _ h => h) hHeld (Or.inl ⟨by rfl, ?_⟩) ?_ ?_
    rotate_left
    · intro w' hw'
      have s0 := blk_cell hw' 0
      have s1 := blk_cell hw' 1
      have s2 := blk_cell hw' 2
      have s3 := blk_cell hw' 3
      go_simp
      with_reducible rfl
    rotate_left
    · simp only [Act.put, List.setIfInBounds_toArray, List.set_cons_zero, List.set_cons_succ]
      rfl
    refine rg_take (i := 2) (N := some 45) (v := ?_) (a' := ?_) (bm 37 7) rfl rfl (by kernel_rfl) (fun _ _ _ h => h) hHeld (Or.inl ⟨by rfl, ?_⟩) ?_ ?_
    rotate_left
    · intro w' hw'
      have s0 := blk_cell hw' 0
      have s1 := blk_cell hw' 1
      have s2 := blk_cell hw' 2
      have s3 := blk_cell hw' 3
      go_simp
      with_reducible rfl
    rotate_left
    · simp only [Act.put, List.setIfInBounds_toArray, List.set_cons_zero, List.set_cons_succ]
      rfl
    refine rg_take (i := 3) (N := some 46) (v := ?_) (a' := ?_) (bm 37 15) rfl rfl (by kernel_rfl) (fun _ _ _ h => h) hHeld (Or.inl ⟨by rfl, ?_⟩) ?_ ?_
    rotate_left
    · intro w' hw'
      have s0 := blk_cell hw' 0
      have s1 := blk_cell hw' 1
      have s2 := blk_cell hw' 2
      have s3 := blk_cell hw' 3
      go_simp
      with_reducible rfl
    rotate_left
    · simp only [Act.put, List.setIfInBounds_toArray, List.set_cons_zero, List.set_cons_succ]
      rfl
    refine rg_take (i := 4) (N := some 47) (v := ?_) (a' := ?_) (bm 37 31) rfl rfl (by kernel_rfl) (fun _ _ _ h => h) hHeld (Or.inl ⟨by rfl, ?_⟩) ?_ ?_
    rotate_left
    · intro w' hw'
      have s0 := blk_cell hw' 0
      have s1 := blk_cell hw' 1
      have s2 := blk_cell hw' 2
      have s3 := blk_cell hw' 3
      go_simp
      with_reducible rfl
    rotate_left
    · simp only [Act.put, List.setIfInBounds_toArray, List.set_cons_zero, List.set_cons_succ]
      rfl
    refine rg_take (i := 5) (N := some 48) (v := ?_) (a' := ?_) (bm 37 63) rfl rfl (by kernel_rfl) (fun _ _ _ h => h) hHeld (Or.inl ⟨by rfl, ?_⟩) ?_ ?_
    rotate_left
    · intro w' hw'
      have s0 := blk_cell hw' 0
      have s1 := blk_cell hw' 1
      have s2 := blk_cell hw' 2
      have s3 := blk_cell hw' 3
      go_simp
      with_reducible rfl
    rotate_left
    · simp only [Act.put, List.setIfInBounds_toArray, List.set_cons_zero, List.set_cons_succ]
      rfl
    refine rg_take (i := 6) (N := some 49) (v := ?_) (a' := ?_) (bm 37 127) rfl rfl (by kernel_rfl) (fun _ _ _ h => h) hHeld (Or.inl ⟨by rfl, ?_⟩) ?_ ?_
    rotate_left
    · intro w' hw'
      have s0 := blk_cell hw' 0
      have s1 := blk_cell hw' 1
      have s2 := blk_cell hw' 2
      have s3 := blk_cell hw' 3
      go_simp
      with_reducible rfl
    rotate_left
    · simp only [Act.put, List.setIfInBounds_toArray, List.set_cons_zero, List.set_cons_succ]
      rfl
    refine rg_take (i := 7) (N := some 50) (v := ?_) (a' := ?_) (bm 37 255) rfl rfl (by kernel_rfl) (fun _ _ _ h => h) hHeld (Or.inl ⟨by rfl, ?_⟩) ?_ ?_
    rotate_left
    · intro w' hw'
      have s0 := blk_cell hw' 0
      have s1 := blk_cell hw' 1
      have s2 := blk_cell hw' 2
      have s3 := blk_cell hw' 3
      go_simp
      with_reducible rfl
    rotate_left
    · simp only [Act.put, List.setIfInBounds_toArray, List.set_cons_zero, List.set_cons_succ]
      rfl
    refine rg_take (i := 8) (N := some 51) (v := ?_) (a' := ?_) (bm 37 511) rfl rfl (by kernel_rfl) (fun _ _ _ h => h) hHeld (Or.inl ⟨by rfl, ?_⟩) ?_ ?_
    rotate_left
    · intro w' hw'
      have s0 := blk_cell hw' 0
      have s1 := blk_cell hw' 1
      have s2 := blk_cell hw' 2
      have s3 := blk_cell hw' 3
      go_simp
      with_reducible rfl
    rotate_left
    · simp only [Act.put, List.setIfInBounds_toArray, List.set_cons_zero, List.set_cons_succ]
      rfl
    refine rg_take (i := 9) (N := some 52) (v := ?_) (a' := ?_) (bm 37 1023) rfl rfl (by kernel_rfl) (fun _ _ _ h => h) hHeld (Or.inl ⟨by rfl, ?_⟩) ?_ ?_
    rotate_left
    · intro w' hw'
      have s0 := blk_cell hw' 0
      have s1 := blk_cell hw' 1
      have s2 := blk_cell hw' 2
      have s3 := blk_cell hw' 3
      go_simp
      with_reducible rfl
    rotate_left
    · simp only [Act.put, List.setIfInBounds_toArray, List.set_cons_zero, List.set_cons_succ]
      rfl
    refine rg_take (i := 11) (N := some 54) (v := ?_) (a' := ?_) (bm 37 3071) rfl rfl (by kernel_rfl) (fun _ _ _ h => h) hHeld (Or.inl ⟨by rfl, ?_⟩) ?_ ?_
    rotate_left
    · intro w' hw'
      have s0 := blk_cell hw' 0
      have s1 := blk_cell hw' 1
      have s2 := blk_cell hw' 2
      have s3 := blk_cell hw' 3
      go_simp
      with_reducible rfl
    rotate_left
    · simp only [Act.put, List.setIfInBounds_toArray, List.set_cons_zero, List.set_cons_succ]
      rfl
    refine rg_take (i := 12) (N := some 55) (v := ?_) (a' := ?_) (bm 37 7167) rfl rfl (by kernel_rfl) (fun _ _ _ h => h) hHeld (Or.inl ⟨by rfl, ?_⟩) ?_ ?_
    rotate_left
    · intro w' hw'
      have s0 := blk_cell hw' 0
      have s1 := blk_cell hw' 1
      have s2 := blk_cell hw' 2
      have s3 := blk_cell hw' 3
      go_simp
      with_reducible rfl
    rotate_left
    · simp only [Act.put, List.setIfInBounds_toArray, List.set_cons_zero, List.set_cons_succ]
      rfl
    refine rg_take (i := 13) (N := some 56) (v := ?_) (a' := ?_) (bm 37 15359) rfl rfl (by kernel_rfl) (fun _ _ _ h => h) hHeld (Or.inl ⟨by rfl, ?_⟩) ?_ ?_
    rotate_left
    · intro w' hw'
      have s0 := blk_cell hw' 0
      have s1 := blk_cell hw' 1
      have s2 := blk_cell hw' 2
      have s3 := blk_cell hw' 3
      go_simp
      with_reducible rfl
    rotate_left
    · simp only [Act.put, List.setIfInBounds_toArray, List.set_cons_zero, List.set_cons_succ]
      rfl
    refine rg_take (i := 14) (N := some 57) (v := ?_) (a' := ?_) (bm 37 31743) rfl rfl (by kernel_rfl) (fun _ _ _ h => h) hHeld (Or.inl ⟨by rfl, ?_⟩) ?_ ?_
    rotate_left
    · intro w' hw'
      have s0 := blk_cell hw' 0
      have s1 := blk_cell hw' 1
      have s2 := blk_cell hw' 2
      have s3 := blk_cell hw' 3
      go_simp
      with_reducible rfl
    rotate_left
    · simp only [Act.put, List.setIfInBounds_toArray, List.set_cons_zero, List.set_cons_succ]
      rfl
    refine rg_ready [10] (by kernel_rfl) (by simp) ?_
    refine rg_one (i := 10) (N := some 53) (bm 37 32767) rfl rfl (by kernel_rfl) (fun K hK => ?_) rg_nil
    have HE := Aside0.mk (hwd.out ▸ HDE.out)
    go_simp
    go_at_call 11
    with_reducible refine (tabAllK HE.out (by rw [HN.out]; omega) rfl).mono ?_
    rintro e wx10r5 ⟨v10, rfl, hs⟩
    obtain ⟨A10, c10, rfl, hc10, _⟩ := hs.reads
    rw [HN.out] at hs hc10 ⊢
    have hnew := (hs.pick3 [2]).blk
    have HE10 := Aside0.mk hs
    clear hs
    go_wp2_with fail
    refine hK.out _ _ hnew ?_
    clear hK K
    refine rg_norm (a' := ?_) ?_ ?_
    rotate_left
    · simp only [Act.put, List.setIfInBounds_toArray, List.set_cons_zero, List.set_cons_succ]
      rfl
    clear hHeld
    have hHeld := hnew
    clear hnew
    refine rg_ready [15] (by kernel_rfl) (by simp) ?_
    refine rg_one (i := 15) (N := some 58) (bm 37 65535) rfl rfl (by kernel_rfl) (fun K hK => ?_) rg_nil
    obtain ⟨Aa, ca, ea, _, hCa⟩ := HE10.out.reads
    obtain ⟨Ab, cb, eb, _, hCb⟩ := (HE10.out.pick4 [3]).reads
    injection ea with ea1 ea2 ea3
    injection eb with eb1 eb2 eb3
    clear ea2 ea3 eb2 eb3
    subst ea1 eb1
    rw [HN.out] at hCa hCb
    have HCa := Aside0.mk hCa
    have HCb := Aside0.mk hCb
    clear hCa hCb
    go_simp
    go_at_call 15
    with_reducible refine (frInts HE10.out A10 A5 n c10 c5 _ HN.out HCa.out hc10 HCb.out hc5 (by omega)).mono ?_
    rintro e wx10x15r5 ⟨rfl, hs⟩
    have hnew := (hs.pick3 [2]).blk
    have HE15 := Aside0.mk hs.drop
    clear hs
    go_wp2_with fail
    refine hK.out _ _ hnew ?_
    clear hK K
    refine rg_norm (a' := ?_) ?_ ?_
    rotate_left
    · simp only [Act.put, List.setIfInBounds_toArray, List.set_cons_zero, List.set_cons_succ]
      rfl
    clear hHeld
    have hHeld := hnew
    clear hnew
    refine rg_take (i := 16) (N := some 59) (v := ?_) (a' := ?_) (bm 37 131071) rfl rfl (by kernel_rfl) (fun _ _ _ h => h) hHeld (Or.inl ⟨by rfl, ?_⟩) ?_ ?_
    rotate_left
    · intro w' hw'
      have s0 := blk_cell hw' 0
      have s1 := blk_cell hw' 1
      have s2 := blk_cell hw' 2
      have s3 := blk_cell hw' 3
      go_simp
      with_reducible rfl
    rotate_left
    · simp only [Act.put, List.setIfInBounds_toArray, List.set_cons_zero, List.set_cons_succ]
      rfl
    refine rg_take (i := 17) (N := some 60) (v := ?_) (a' := ?_) (bm 37 262143) rfl rfl (by kernel_rfl) (fun _ _ _ h => h) hHeld (Or.inl ⟨by rfl, ?_⟩) ?_ ?_
    rotate_left
    · intro w' hw'
      have s0 := blk_cell hw' 0
      have s1 := blk_cell hw' 1
      have s2 := blk_cell hw' 2
      have s3 := blk_cell hw' 3
      go_simp
      with_reducible rfl
    rotate_left
    · simp only [Act.put, List.setIfInBounds_toArray, List.set_cons_zero, List.set_cons_succ]
      rfl
    refine rg_take (i := 18) (N := some 61) (v := ?_) (a' := ?_) (bm 37 524287) rfl rfl (by kernel_rfl) (fun _ _ _ h => h) hHeld (Or.inl ⟨by rfl, ?_⟩) ?_ ?_
    rotate_left
    · intro w' hw'
      have s0 := blk_cell hw' 0
      have s1 := blk_cell hw' 1
      have s2 := blk_cell hw' 2
      have s3 := blk_cell hw' 3
      go_simp
      with_reducible rfl
    rotate_left
    · simp only [Act.put, List.setIfInBounds_toArray, List.set_cons_zero, List.set_cons_succ]
      rfl
    refine rg_take (i := 20) (N := some 63) (v := ?_) (a' := ?_) (bm 37 1572863) rfl rfl (by kernel_rfl) (fun _ _ _ h => h) hHeld (Or.inl ⟨by rfl, ?_⟩) ?_ ?_
    rotate_left
    · intro w' hw'
      have s0 := blk_cell hw' 0
      have s1 := blk_cell hw' 1
      have s2 := blk_cell hw' 2
      have s3 := blk_cell hw' 3
      go_simp
      with_reducible rfl
    rotate_left
    · simp only [Act.put, List.setIfInBounds_toArray, List.set_cons_zero, List.set_cons_succ]
      rfl
    refine rg_take (i := 21) (N := some 64) (v := ?_) (a' := ?_) (bm 37 3670015) rfl rfl (by kernel_rfl) (fun _ _ _ h => h) hHeld (Or.inl ⟨by rfl, ?_⟩) ?_ ?_
    rotate_left
    · intro w' hw'
      have s0 := blk_cell hw' 0
      have s1 := blk_cell hw' 1
      have s2 := blk_cell hw' 2
      have s3 := blk_cell hw' 3
      go_simp
      with_reducible rfl
    rotate_left
    · simp only [Act.put, List.setIfInBounds_toArray, List.set_cons_zero, List.set_cons_succ]
      rfl
    refine rg_take (i := 22) (N := some 65) (v := ?_) (a' := ?_) (bm 37 7864319) rfl rfl (by kernel_rfl) (fun _ _ _ h => h) hHeld (Or.inl ⟨by rfl, ?_⟩) ?_ ?_
    rotate_left
    · intro w' hw'
      have s0 := blk_cell hw' 0
      have s1 := blk_cell hw' 1
      have s2 := blk_cell hw' 2
      have s3 := blk_cell hw' 3
      go_simp
      with_reducible rfl
    rotate_left
    · simp only [Act.put, List.setIfInBounds_toArray, List.set_cons_zero, List.set_cons_succ]
      rfl
    refine rg_take (i := 23) (N := some 66) (v := ?_) (a' := ?_) (bm 37 16252927) rfl rfl (by kernel_rfl) (fun _ _ _ h => h) hHeld (Or.inl ⟨by rfl, ?_⟩) ?_ ?_
    rotate_left
    · intro w' hw'
      have s0 := blk_cell hw' 0
      have s1 := blk_cell hw' 1
      have s2 := blk_cell hw' 2
      have s3 := blk_cell hw' 3
      go_simp
      with_reducible rfl
    rotate_left
    · simp only [Act.put, List.setIfInBounds_toArray, List.set_cons_zero, List.set_cons_succ]
      rfl
    refine rg_take (i := 24) (N := some 67) (v := ?_) (a' := ?_) (bm 37 33030143) rfl rfl (by kernel_rfl) (fun _ _ _ h => h) hHeld (Or.inl ⟨by rfl, ?_⟩) ?_ ?_
    rotate_left
    · intro w' hw'
      have s0 := blk_cell hw' 0
      have s1 := blk_cell hw' 1
      have s2 := blk_cell hw' 2
      have s3 := blk_cell hw' 3
      go_simp
      with_reducible rfl
    rotate_left
    · simp only [Act.put, List.setIfInBounds_toArray, List.set_cons_zero, List.set_cons_succ]
      rfl
    refine rg_ready [19] (by kernel_rfl) (by simp) ?_
    refine rg_one (i := 19) (N := some 62) (bm 37 33554431) rfl rfl (by kernel_rfl) (fun K hK => ?_) rg_nil
    go_simp
    go_at_call 14
    with_reducible refine (tabLenK HE15.out HN.out).mono ?_
    rintro e wx10x15x19r5 ⟨rfl, hs⟩
    have hnew := (hs.pick2 [1]).blk
    have HE19 := Aside0.mk hs
    clear hs
    go_wp2_with fail
    refine hK.out _ _ hnew ?_
    clear hK K
    refine rg_norm (a' := ?_) ?_ ?_
    rotate_left
    · simp only [Act.put, List.setIfInBounds_toArray, List.set_cons_zero, List.set_cons_succ]
      rfl
    clear hHeld
    have hHeld := hnew
    clear hnew
    refine rg_take (i := 25) (N := some 68) (v := ?_) (a' := ?_) (bm 37 67108863) rfl rfl (by kernel_rfl) (fun _ _ _ h => h) hHeld (Or.inl ⟨by rfl, ?_⟩) ?_ ?_
    rotate_left
    · intro w' hw'
      have s0 := blk_cell hw' 0
      have s1 := blk_cell hw' 1
      have s2 := blk_cell hw' 2
      have s3 := blk_cell hw' 3
      go_simp
      with_reducible rfl
    rotate_left
    · simp only [Act.put, List.setIfInBounds_toArray, List.set_cons_zero, List.set_cons_succ]
      rfl
    refine rg_take (i := 26) (N := some 69) (v := ?_) (a' := ?_) (bm 37 134217727) rfl rfl (by kernel_rfl) (fun _ _ _ h => h) hHeld (Or.inl ⟨by rfl, ?_⟩) ?_ ?_
    rotate_left
    · intro w' hw'
      have s0 := blk_cell hw' 0
      have s1 := blk_cell hw' 1
      have s2 := blk_cell hw' 2
      have s3 := blk_cell hw' 3
      go_simp
      with_reducible rfl
    rotate_left
    · simp only [Act.put, List.setIfInBounds_toArray, List.set_cons_zero, List.set_cons_succ]
      rfl
    refine rg_take (i := 27) (N := some 70) (v := ?_) (a' := ?_) (bm 37 268435455) rfl rfl (by kernel_rfl) (fun _ _ _ h => h) hHeld (Or.inl ⟨by rfl, ?_⟩) ?_ ?_
    rotate_left
    · intro w' hw'
      have s0 := blk_cell hw' 0
      have s1 := blk_cell hw' 1
      have s2 := blk_cell hw' 2
      have s3 := blk_cell hw' 3
      go_simp
      with_reducible rfl
    rotate_left
    · simp only [Act.put, List.setIfInBounds_toArray, List.set_cons_zero, List.set_cons_succ]
      rfl
    refine rg_take (i := 28) (N := some 71) (v := ?_) (a' := ?_) (bm 37 536870911) rfl rfl (by kernel_rfl) (fun _ _ _ h => h) hHeld (Or.inl ⟨by rfl, ?_⟩) ?_ ?_
    rotate_left
    · intro w' hw'
      have s0 := blk_cell hw' 0
      have s1 := blk_cell hw' 1
      have s2 := blk_cell hw' 2
      have s3 := blk_cell hw' 3
      go_simp
      with_reducible rfl
    rotate_left
    · simp only [Act.put, List.setIfInBounds_toArray, List.set_cons_zero, List.set_cons_succ]
      rfl
    refine rg_take (i := 30) (N := some 73) (v := ?_) (a' := ?_) (bm 37 1610612735) rfl rfl (by kernel_rfl) (fun _ _ _ h => h) hHeld (Or.inl ⟨by rfl, ?_⟩) ?_ ?_
    rotate_left
    · intro w' hw'
      have s0 := blk_cell hw' 0
      have s1 := blk_cell hw' 1
      have s2 := blk_cell hw' 2
      have s3 := blk_cell hw' 3
      go_simp
      with_reducible rfl
    rotate_left
    · simp only [Act.put, List.setIfInBounds_toArray, List.set_cons_zero, List.set_cons_succ]
      rfl
    refine rg_take (i := 31) (N := some 74) (v := ?_) (a' := ?_) (bm 37 3758096383) rfl rfl (by kernel_rfl) (fun _ _ _ h => h) hHeld (Or.inl ⟨by rfl, ?_⟩) ?_ ?_
    rotate_left
    · intro w' hw'
      have s0 := blk_cell hw' 0
      have s1 := blk_cell hw' 1
      have s2 := blk_cell hw' 2
      have s3 := blk_cell hw' 3
      go_simp
      with_reducible rfl
    rotate_left
    · simp only [Act.put, List.setIfInBounds_toArray, List.set_cons_zero, List.set_cons_succ]
      rfl
    refine rg_take (i := 32) (N := some 75) (v := ?_) (a' := ?_) (bm 37 8053063679) rfl rfl (by kernel_rfl) (fun _ _ _ h => h) hHeld (Or.inl ⟨by rfl, ?_⟩) ?_ ?_
    rotate_left
    · intro w' hw'
      have s0 := blk_cell hw' 0
      have s1 := blk_cell hw' 1
      have s2 := blk_cell hw' 2
      have s3 := blk_cell hw' 3
      go_simp
      with_reducible rfl
    rotate_left
    · simp only [Act.put, List.setIfInBounds_toArray, List.set_cons_zero, List.set_cons_succ]
      rfl
    refine rg_take (i := 33) (N := some 76) (v := ?_) (a' := ?_) (bm 37 16642998271) rfl rfl (by kernel_rfl) (fun _ _ _ h => h) hHeld (Or.inl ⟨by rfl, ?_⟩) ?_ ?_
    rotate_left
    · intro w' hw'
      have s0 := blk_cell hw' 0
      have s1 := blk_cell hw' 1
      have s2 := blk_cell hw' 2
      have s3 := blk_cell hw' 3
      go_simp
      with_reducible rfl
    rotate_left
    · simp only [Act.put, List.setIfInBounds_toArray, List.set_cons_zero, List.set_cons_succ]
      rfl
    refine rg_ready [29] (by kernel_rfl) (by simp) ?_
    refine rg_one (i := 29) (N := some 72) (bm 37 17179869183) rfl rfl (by kernel_rfl) (fun K hK => ?_) rg_nil
    go_simp
    go_at_call 34
    with_reducible refine (tabLimits HE19.out).mono ?_
    rintro e wx10x15x19x29r5 ⟨rfl, hs⟩
    have hnew := (hs.pick2 [1]).blk
    have HE29 := Aside0.mk hs
    clear hs
    go_wp2_with fail
    refine hK.out _ _ hnew ?_
    clear hK K
    refine rg_norm (a' := ?_) ?_ ?_
    rotate_left
    · simp only [Act.put, List.setIfInBounds_toArray, List.set_cons_zero, List.set_cons_succ]
      rfl
    clear hHeld
    have hHeld := hnew
    clear hnew
    refine rg_take (i := 34) (N := some 77) (v := ?_) (a' := ?_) (bm 37 34359738367) rfl rfl (by kernel_rfl) (fun _ _ _ h => h) hHeld (Or.inl ⟨by rfl, ?_⟩) ?_ ?_
    rotate_left
    · intro w' hw'
      have s0 := blk_cell hw' 0
      have s1 := blk_cell hw' 1
      have s2 := blk_cell hw' 2
      have s3 := blk_cell hw' 3
      go_simp
      with_reducible rfl
    rotate_left
    · simp only [Act.put, List.setIfInBounds_toArray, List.set_cons_zero, List.set_cons_succ]
      rfl
    refine rg_take (i := 35) (N := some 78) (v := ?_) (a' := ?_) (bm 37 68719476735) rfl rfl (by kernel_rfl) (fun _ _ _ h => h) hHeld (Or.inl ⟨by rfl, ?_⟩) ?_ ?_
    rotate_left
    · intro w' hw'
      have s0 := blk_cell hw' 0
      have s1 := blk_cell hw' 1
      have s2 := blk_cell hw' 2
      have s3 := blk_cell hw' 3
      go_simp
      with_reducible rfl
    rotate_left
    · simp only [Act.put, List.setIfInBounds_toArray, List.set_cons_zero, List.set_cons_succ]
      rfl
    refine rg_take (i := 36) (N := some 6) (v := ?_) (a' := ?_) (bm 37 137438953471) rfl rfl (by kernel_rfl) (fun _ _ _ h => h) hHeld (Or.inl ⟨by rfl, ?_⟩) ?_ ?_
    rotate_left
    · intro w' hw'
      have s0 := blk_cell hw' 0
      have s1 := blk_cell hw' 1
      have s2 := blk_cell hw' 2
      have s3 := blk_cell hw' 3
      go_simp
      with_reducible rfl
    rotate_left
    · simp only [Act.put, List.setIfInBounds_toArray, List.set_cons_zero, List.set_cons_succ]
      rfl
    refine rg_done (by kernel_rfl) ?_
    go_wp2
    go_ret
    have h30 := HE29.out.pick4 [1, 2, 0]
    rw [← HN.out] at h30
    exact ⟨rfl, (SB.obClose h30).swap⟩
end Go.Proofs.Ytjdnkhgpnddncaa.G
