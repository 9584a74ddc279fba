/- One thing with a memory, and the document's. -/
import Derived.Deep.DeepMust
import Derived.Test.YtffoolhfjomhhaaDoorRefD
import Derived.Test.YtffoolhfjomhhaaDoorG0
namespace Go.Proofs.YtffoolhfjomhhaaDoor.G
open Go.RowKit Go.Proofs.YtffoolhfjomhhaaDoorW.PrintWords Go.Proofs.YtffoolhfjomhhaaDoorW.PrintLast Go.Proofs.YtffoolhfjomhhaaDoorW.PrintMore
set_option linter.unusedVariables false
set_option linter.unusedSimpArgs false
def okI (x : Int) : Prop := -9223372036854775808 ≤ x ∧ x < 9223372036854775808
def okU (x : Int) : Prop := 0 ≤ x ∧ x < 18446744073709551616
section
variable {w0 w : World} {L : List As} {p : Nat} {m : Mem}
theorem memLoadK (hS : SB w0 w (MO p m :: L)) (hG : Globs w0) (hm : Good m) {op base off : Int} (hop : okI op) (hb : okU base) (ho : okU off) {x : Int} {b : Bool} (h : mLoad m.b op base off = (x, b)) :
    Calls Tryd.prog 12 #[.pointer (some ⟨p, 0, none⟩), .int .i64 op, .int .u64 base, .int .u64 off] w fun e w' => e = .returned (.tuple #[.int .u64 x, .bool b]) ∧ SB w0 w' (MO p m :: L) := by
  have h1 := memLoad hS (hG.below hS.bel) hm op base off hop hb ho
  rw [h] at h1
  exact h1.mono (fun e w' hh => ⟨hh.1, hS.below hh.2⟩)
theorem refLoadK (hS : SB w0 w (RO p m :: L)) (hm : Good m) {op base off : Int} (hop : okI op) (hb : okU base) (ho : okU off) {x : Int} {b : Bool} (h : mLoad m.b op base off = (x, b)) :
    Calls Tryd.prog 33 #[.pointer (some ⟨p, 0, none⟩), .int .i64 op, .int .u64 base, .int .u64 off] w fun e w' => e = .returned (.tuple #[.int .u64 x, .bool b]) ∧ SB w0 w' (RO p m :: L) := by
  have h1 := refLoad hS hm op base off hop hb ho
  rw [h] at h1
  exact h1.mono (fun e w' hh => ⟨hh.1, hS.below hh.2⟩)
theorem memStoreK (hS : SB w0 w (MO p m :: L)) (hG : Globs w0) (hm : Good m) {op base off v : Int} (hop : okI op) (hb : okU base) (ho : okU off) (hv : okU v) {r : Bool} {b' : List Int} (hr : (mStore m.b op base off v).isSome = r) (hl : (mStore m.b op base off v).getD m.b = b') :
    Calls Tryd.prog 11 #[.pointer (some ⟨p, 0, none⟩), .int .i64 op, .int .u64 base, .int .u64 off, .int .u64 v] w fun e w' => e = .returned (.bool r) ∧ SB w0 w' (MO p { m with b := b' } :: L) := by
  subst hr hl
  exact memStore hS (hG.below hS.bel) hm op base off v hop hb ho hv
theorem refStoreK (hS : SB w0 w (RO p m :: L)) (hm : Good m) {op base off v : Int} (hop : okI op) (hb : okU base) (ho : okU off) (hv : okU v) {r : Bool} {b' : List Int} (hr : (mStore m.b op base off v).isSome = r) (hl : (mStore m.b op base off v).getD m.b = b') :
    Calls Tryd.prog 34 #[.pointer (some ⟨p, 0, none⟩), .int .i64 op, .int .u64 base, .int .u64 off, .int .u64 v] w fun e w' => e = .returned (.bool r) ∧ SB w0 w' (RO p { m with b := b' } :: L) := by
  subst hr hl
  exact refStore hS hm op base off v hop hb ho hv
theorem memGrowK {pg : Nat} (hS : SB w0 w (MO p m :: L)) (hP : Paged m pg) {n : Int} (hn : okI n) {r : Int} {b' : List Int} (hr : (if (mGrow m pg n).isSome then (pg : Int) else -1) = r) (hl : (mGrow m pg n).getD m.b = b') :
    Calls Tryd.prog 20 #[.pointer (some ⟨p, 0, none⟩), .int .i64 n] w fun e w' => e = .returned (.int .i64 r) ∧ SB w0 w' (MO p { m with b := b' } :: L) := by
  subst hr hl
  exact memGrow hS hP n hn
theorem refGrowK {pg : Nat} (hS : SB w0 w (RO p m :: L)) (hP : Paged m pg) {n : Int} (hn : okI n) {r : Int} {b' : List Int} (hr : (if (mGrow m pg n).isSome then (pg : Int) else -1) = r) (hl : (mGrow m pg n).getD m.b = b') :
    Calls Tryd.prog 35 #[.pointer (some ⟨p, 0, none⟩), .int .i64 n] w fun e w' => e = .returned (.int .i64 r) ∧ SB w0 w' (RO p { m with b := b' } :: L) := by
  subst hr hl
  exact refGrow hS hP n hn
theorem memBytesK (hS : SB w0 w (MO p m :: L)) (hm : Good m) {at_ n : Int} (ha : okI at_) (hn : okI n) {l : List Int} (h : mBytes m.b at_ n = l) :
    Calls Tryd.prog 16 #[.pointer (some ⟨p, 0, none⟩), .int .i64 at_, .int .i64 n] w fun e w' => ∃ v, e = .returned v ∧ SB w0 w' (Row (Kd.int .u8) 5 v l :: MO p m :: L) := by
  subst h
  exact memBytes hS hm at_ n ha hn
theorem refBytesK (hS : SB w0 w (RO p m :: L)) (hm : Good m) {at_ n : Int} (ha : okI at_) (hn : okI n) {l : List Int} (h : mBytes m.b at_ n = l) :
    Calls Tryd.prog 36 #[.pointer (some ⟨p, 0, none⟩), .int .i64 at_, .int .i64 n] w fun e w' => ∃ v, e = .returned v ∧ SB w0 w' (Row (Kd.int .u8) 5 v l :: RO p m :: L) := by
  subst h
  exact refBytes hS hm at_ n ha hn
theorem memLayK (hS : SB w0 w (MO p m :: L)) (hm : Good m) {at_ : Int} {l : List Int} {A : Option Addr} {c : Nat} (ha : okI at_) (hC : Kd.C (Kd.int .u8) w0 A l.length l) (hl : l.length ≤ 300) {r : Bool} {b' : List Int} (hr : (mLay m.b at_ l).isSome = r) (hb : (mLay m.b at_ l).getD m.b = b') :
    Calls Tryd.prog 15 #[.pointer (some ⟨p, 0, none⟩), .int .i64 at_, .slice A l.length c] w fun e w' => e = .returned (.bool r) ∧ SB w0 w' (MO p { m with b := b' } :: L) := by
  subst hr hb
  exact memLay hS hm at_ l A c ha (Kd.C_below hC hS.bel) (by omega)
theorem refLayK (hS : SB w0 w (RO p m :: L)) (hm : Good m) {at_ : Int} {l : List Int} {A : Option Addr} {c : Nat} (ha : okI at_) (hC : Kd.C (Kd.int .u8) w0 A l.length l) {r : Bool} {b' : List Int} (hr : (mLay m.b at_ l).isSome = r) (hb : (mLay m.b at_ l).getD m.b = b') :
    Calls Tryd.prog 37 #[.pointer (some ⟨p, 0, none⟩), .int .i64 at_, .slice A l.length c] w fun e w' => e = .returned (.bool r) ∧ SB w0 w' (RO p { m with b := b' } :: L) := refLay hS at_ l A c ha hC hm.2 hr hb
theorem memFitsK (hS : SB w0 w (MO p m :: L)) (hm : Good m) {base off k : Int} (hb : okU base) (ho : okU off) (hk : okI k) {r : Bool} (hr : mFits m.b.length base off k = r) :
    Calls Tryd.prog 21 #[.pointer (some ⟨p, 0, none⟩), .int .u64 base, .int .u64 off, .int .i64 k] w fun e w' => e = .returned (.bool r) ∧ SB w0 w' (MO p m :: L) := by
  subst hr
  exact (memFitsS hS hm base off k hb ho hk).mono (fun e w' hh => ⟨hh.1, hS.below (drawn_below hh.2)⟩)
theorem refFitsK (hS : SB w0 w (RO p m :: L)) (hm : Good m) {base off k : Int} (hb : okU base) (ho : okU off) (hk : okI k) {r : Bool} (hr : mFits m.b.length base off k = r) :
    Calls Tryd.prog 38 #[.pointer (some ⟨p, 0, none⟩), .int .u64 base, .int .u64 off, .int .i64 k] w fun e w' => e = .returned (.bool r) ∧ SB w0 w' (RO p m :: L) := by
  subst hr
  obtain ⟨A, c, hc, h1⟩ := SB.obOpen hS
  exact (refFits p A m.b.length c base off k w hm.2 hb ho hk (blk_cell h1.blk 0)).mono (fun e w' hh => ⟨hh.1, hS.below (drawn_below hh.2)⟩)
theorem refPagesK {n : Int} (hS : SB w0 w (RO p m :: L)) (hm : Good m) (hr : (m.b.length : Int) / 65536 = n) :
    Calls Tryd.prog 25 #[.pointer (some ⟨p, 0, none⟩)] w fun e w' => e = .returned (.int .i64 n) ∧ SB w0 w' (RO p m :: L) := by
  subst hr
  obtain ⟨A, c, hc, h1⟩ := SB.obOpen hS
  exact (refPages p A m.b.length c w (by have := hm.2; omega) (blk_cell h1.blk 0)).mono (fun e w' hh => ⟨hh.1, hS.below (drawn_below hh.2)⟩)
end
/-- What one thing makes of a memory. -/
def mDo (m : Mem) (pg : Nat) (o : S57) : Mem :=
  if o.f0 = 2 ∨ o.f0 = 3 then { m with b := (mStore m.b o.f1 o.f2 o.f3 o.f4).getD m.b }
  else if o.f0 = 4 then { m with b := (mGrow m pg o.f6).getD m.b }
  else if o.f0 = 6 then { m with b := (mLay m.b o.f5 o.f7).getD m.b } else m
structure OkAct (o : S57) : Prop where
  op : okI o.f1
  base : okU o.f2
  off : okU o.f3
  v : okU o.f4
  at_ : okI o.f5
  n : okI o.f6
  oct : Oct o.f7
  len : o.f7.length ≤ 300
/-- A memory stays one that was made and grown. -/
theorem mDo_paged {m : Mem} {pg : Nat} (hP : Paged m pg) {o : S57} (ho : OkAct o) : ∃ pg', Paged (mDo m pg o) pg' ∧ (mDo m pg o).hi = m.hi ∧ (mDo m pg o).has = m.has := by
  unfold mDo
  split
  · refine ⟨pg, ?_, rfl, rfl⟩
    cases h : mStore m.b o.f1 o.f2 o.f3 o.f4 with
    | none => exact hP
    | some b' =>
      obtain ⟨h1, h2⟩ := mStore_ok hP.oct ho.base.1 ho.off.1 h
      exact ⟨h2, h1.trans hP.len, hP.le4, hP.hi0⟩
  · split
    · unfold mGrow
      split
      · rename_i h1 h2 h
        refine ⟨pg + o.f6.toNat, ⟨?_, ?_, ?_, hP.hi0⟩, rfl, rfl⟩
        · intro c hc
          rcases List.mem_append.1 hc with hc | hc
          · exact hP.oct c hc
          · rw [List.eq_of_mem_replicate hc]; decide
        · show (m.b ++ List.replicate (65536 * o.f6.toNat) 0).length = _
          rw [List.length_append, List.length_replicate, hP.len, Nat.mul_add]
        · have := mMost_le hP
          omega
      · exact ⟨pg, hP, rfl, rfl⟩
    · split
      · refine ⟨pg, ?_, rfl, rfl⟩
        unfold mLay
        split
        · rename_i h
          exact ⟨splice_oct hP.oct ho.oct, (splice_length (by omega)).trans hP.len, hP.le4, hP.hi0⟩
        · exact hP
      · exact ⟨pg, hP, rfl, rfl⟩
set_option maxHeartbeats 16000000 in
set_option maxRecDepth 100000 in
theorem bothMem {w0 w : World} {L : List As} {p q : Nat} {m : Mem} {pg : Nat} (hS : SB w0 w (MO p m :: RO q m :: L)) (hG : Globs w0) (hP : Paged m pg) (o : S57) (ho : OkAct o) (A : Option Addr) (c : Nat) (hC : Kd.C (Kd.int .u8) w0 A o.f7.length o.f7) :
    Calls Tryd.prog 24 #[.pointer (some ⟨p, 0, none⟩), .pointer (some ⟨q, 0, none⟩), .agg #[.int .i64 o.f0, .int .i64 o.f1, .int .u64 o.f2, .int .u64 o.f3, .int .u64 o.f4, .int .i64 o.f5, .int .i64 o.f6, .slice A o.f7.length c]] w fun e w' => e = .returned (.bool true) ∧ SB w0 w' (MO p (mDo m pg o) :: RO q (mDo m pg o) :: L) := by
  obtain ⟨hop, hba, hof, hv, hat, hn, hoct, hlen⟩ := ho
  obtain ⟨wh, op, base, off, v, at_, n, l⟩ := o
  dsimp only at hC hop hba hof hv hat hn hoct hlen ⊢
  obtain ⟨b, hb, hbx⟩ := (show ∃ b, b = w.heap.size ∧ SB w0 (w.alloc (.cells #[.int .i64 wh, .int .i64 op, .int .u64 base, .int .u64 off, .int .u64 v, .int .i64 at_, .int .i64 n, .slice A l.length c] 57)) (Box b #[.int .i64 wh, .int .i64 op, .int .u64 base, .int .u64 off, .int .u64 v, .int .i64 at_, .int .i64 n, .slice A l.length c] 57 :: MO p m :: RO q m :: L) from ⟨_, rfl, hS.box _ 57⟩)
  have HG := Aside0.mk hG
  have HP := Aside0.mk hP
  have HGD := Aside0.mk hP.good
  have HS := Aside0.mk (hbx.pick3 [1, 2, 0])
  have HC := Aside0.mk hC
  have HOP := Aside0.mk hop
  have HBA := Aside0.mk hba
  have HOF := Aside0.mk hof
  have HV := Aside0.mk hv
  have HAT := Aside0.mk hat
  have HN := Aside0.mk hn
  have HLEN := Aside0.mk hlen
  have hb' : w.heap.size = b := hb.symm
  obtain ⟨m', hm'⟩ : ∃ m', mDo m pg ⟨wh, op, base, off, v, at_, n, l⟩ = m' := ⟨_, rfl⟩
  rw [hm']
  have hl : ∀ j, j < 8 → True := fun _ _ => trivial
  clear hS hbx hC hop hba hof hv hat hn hlen hoct hb hG hP hl
  by_cases h0 : wh = 0
  · subst h0
    have e : m' = m := hm'.symm
    subst e
    clear hm'
    obtain ⟨x, y, hxy⟩ : ∃ x y, mLoad m'.b op base off = (x, y) := ⟨_, _, rfl⟩
    have HXY := Aside0.mk hxy
    have hbd := (HS.out.pick3 [2]).blk
    have s0 := blk_cell hbd 0
    have s1 := blk_cell hbd 1
    have s2 := blk_cell hbd 2
    have s3 := blk_cell hbd 3
    clear hxy hbd
    go_enter Tryd.func24, Tryd.ntmps24
    go_wp2_with (first
      | (go_at_call 12; go_must ((with_reducible refine (memLoadK HS.out HG.out HGD.out HOP.out HBA.out HOF.out HXY.out).mono ?_); rintro e w1 ⟨rfl, hs⟩; have hb1 := (hs.pick3 [2]).blk; have y1 := blk_cell hb1 1; have y2 := blk_cell hb1 2; have y3 := blk_cell hb1 3; have HS1 := Aside0.mk (hs.pick3 [1, 0, 2]); clear hs hb1))
      | (go_at_call 33; go_must ((with_reducible refine (refLoadK HS1.out HGD.out HOP.out HBA.out HOF.out HXY.out).mono ?_); rintro e w2 ⟨rfl, hs⟩; have HS2 := Aside0.mk (hs.pick3 [1, 0, 2]); clear hs)))
    go_ret
    exact ⟨by simp, HS2.out.pick3 [0, 1]⟩
  by_cases h1 : wh = 1
  · subst h1
    have e : m' = m := hm'.symm
    subst e
    clear hm'
    obtain ⟨x, y, hxy⟩ : ∃ x y, mLoad m'.b op base off = (x, y) := ⟨_, _, rfl⟩
    have HXY := Aside0.mk hxy
    have hbd := (HS.out.pick3 [2]).blk
    have s0 := blk_cell hbd 0
    have s1 := blk_cell hbd 1
    have s2 := blk_cell hbd 2
    have s3 := blk_cell hbd 3
    clear hxy hbd
    go_enter Tryd.func24, Tryd.ntmps24
    go_wp2_with (first
      | (go_at_call 12; go_must ((with_reducible refine (memLoadK HS.out HG.out HGD.out HOP.out HBA.out HOF.out HXY.out).mono ?_); rintro e w1 ⟨rfl, hs⟩; have hb1 := (hs.pick3 [2]).blk; have y1 := blk_cell hb1 1; have y2 := blk_cell hb1 2; have y3 := blk_cell hb1 3; have HS1 := Aside0.mk (hs.pick3 [1, 0, 2]); clear hs hb1))
      | (go_at_call 33; go_must ((with_reducible refine (refLoadK HS1.out HGD.out HOP.out HBA.out HOF.out HXY.out).mono ?_); rintro e w2 ⟨rfl, hs⟩; have HS2 := Aside0.mk (hs.pick3 [1, 0, 2]); clear hs)))
    go_ret
    exact ⟨by simp, HS2.out.pick3 [0, 1]⟩
  by_cases h2 : wh = 2
  · subst h2
    have e : m' = { m with b := (mStore m.b op base off v).getD m.b } := hm'.symm
    obtain ⟨r, hr⟩ : ∃ r, (mStore m.b op base off v).isSome = r := ⟨_, rfl⟩
    obtain ⟨b', hb''⟩ : ∃ b', (mStore m.b op base off v).getD m.b = b' := ⟨_, rfl⟩
    rw [hb''] at e
    subst e
    have HR := Aside0.mk hr
    have HB' := Aside0.mk hb''
    clear hm' hr hb''
    have HSD := Aside0.mk HS.out.drew
    have hbd : _ = some (Obj.cells #[.int .i64 2, .int .i64 op, .int .u64 base, .int .u64 off, .int .u64 v, .int .i64 at_, .int .i64 n, .slice A l.length c] 57 (0, 0)) := (HSD.out.pick3 [2]).blk
    have s0 := blk_cell ((HS.out.pick3 [2]).blk) 0
    go_enter Tryd.func24, Tryd.ntmps24
    go_wp2
    refine rg_startL (n := 22) (S := fun w' => w'.heap[b]? = some (.cells #[.int .i64 2, .int .i64 op, .int .u64 base, .int .u64 off, .int .u64 v, .int .i64 at_, .int .i64 n, .slice A l.length c] 57 (0, 0))) (bm 22 0) (by kernel_rfl) rfl (by kernel_rfl) (hbd) (fun wd hwd hHeld => ?_)
    refine rg_take (i := 0) (N := some 49) (v := ?_) (a' := ?_) (bm 22 1) rfl rfl (by kernel_rfl) (fun _ _ _ h => h) hHeld (Or.inl ⟨by rfl, ?_⟩) ?_ ?_
    rotate_left
    · intro w' hw'
      have s0 := blk_cell hw' 0
      have s1 := blk_cell hw' 1
      have s2 := blk_cell hw' 2
      have s3 := blk_cell hw' 3
      have s4 := blk_cell hw' 4
      go_simp
      with_reducible rfl
    rotate_left
    · simp only [Act.put, List.setIfInBounds_toArray, List.set_cons_zero, List.set_cons_succ]
      rfl
    refine rg_take (i := 1) (N := some 50) (v := ?_) (a' := ?_) (bm 22 3) rfl rfl (by kernel_rfl) (fun _ _ _ h => h) hHeld (Or.inl ⟨by rfl, ?_⟩) ?_ ?_
    rotate_left
    · intro w' hw'
      have s0 := blk_cell hw' 0
      have s1 := blk_cell hw' 1
      have s2 := blk_cell hw' 2
      have s3 := blk_cell hw' 3
      have s4 := blk_cell hw' 4
      go_simp
      with_reducible rfl
    rotate_left
    · simp only [Act.put, List.setIfInBounds_toArray, List.set_cons_zero, List.set_cons_succ]
      rfl
    refine rg_take (i := 2) (N := some 51) (v := ?_) (a' := ?_) (bm 22 7) rfl rfl (by kernel_rfl) (fun _ _ _ h => h) hHeld (Or.inl ⟨by rfl, ?_⟩) ?_ ?_
    rotate_left
    · intro w' hw'
      have s0 := blk_cell hw' 0
      have s1 := blk_cell hw' 1
      have s2 := blk_cell hw' 2
      have s3 := blk_cell hw' 3
      have s4 := blk_cell hw' 4
      go_simp
      with_reducible rfl
    rotate_left
    · simp only [Act.put, List.setIfInBounds_toArray, List.set_cons_zero, List.set_cons_succ]
      rfl
    refine rg_take (i := 3) (N := some 52) (v := ?_) (a' := ?_) (bm 22 15) rfl rfl (by kernel_rfl) (fun _ _ _ h => h) hHeld (Or.inl ⟨by rfl, ?_⟩) ?_ ?_
    rotate_left
    · intro w' hw'
      have s0 := blk_cell hw' 0
      have s1 := blk_cell hw' 1
      have s2 := blk_cell hw' 2
      have s3 := blk_cell hw' 3
      have s4 := blk_cell hw' 4
      go_simp
      with_reducible rfl
    rotate_left
    · simp only [Act.put, List.setIfInBounds_toArray, List.set_cons_zero, List.set_cons_succ]
      rfl
    refine rg_take (i := 4) (N := some 53) (v := ?_) (a' := ?_) (bm 22 31) rfl rfl (by kernel_rfl) (fun _ _ _ h => h) hHeld (Or.inl ⟨by rfl, ?_⟩) ?_ ?_
    rotate_left
    · intro w' hw'
      have s0 := blk_cell hw' 0
      have s1 := blk_cell hw' 1
      have s2 := blk_cell hw' 2
      have s3 := blk_cell hw' 3
      have s4 := blk_cell hw' 4
      go_simp
      with_reducible rfl
    rotate_left
    · simp only [Act.put, List.setIfInBounds_toArray, List.set_cons_zero, List.set_cons_succ]
      rfl
    refine rg_take (i := 5) (N := some 54) (v := ?_) (a' := ?_) (bm 22 63) rfl rfl (by kernel_rfl) (fun _ _ _ h => h) hHeld (Or.inl ⟨by rfl, ?_⟩) ?_ ?_
    rotate_left
    · intro w' hw'
      have s0 := blk_cell hw' 0
      have s1 := blk_cell hw' 1
      have s2 := blk_cell hw' 2
      have s3 := blk_cell hw' 3
      have s4 := blk_cell hw' 4
      go_simp
      with_reducible rfl
    rotate_left
    · simp only [Act.put, List.setIfInBounds_toArray, List.set_cons_zero, List.set_cons_succ]
      rfl
    refine rg_take (i := 6) (N := some 55) (v := ?_) (a' := ?_) (bm 22 127) rfl rfl (by kernel_rfl) (fun _ _ _ h => h) hHeld (Or.inl ⟨by rfl, ?_⟩) ?_ ?_
    rotate_left
    · intro w' hw'
      have s0 := blk_cell hw' 0
      have s1 := blk_cell hw' 1
      have s2 := blk_cell hw' 2
      have s3 := blk_cell hw' 3
      have s4 := blk_cell hw' 4
      go_simp
      with_reducible rfl
    rotate_left
    · simp only [Act.put, List.setIfInBounds_toArray, List.set_cons_zero, List.set_cons_succ]
      rfl
    refine rg_take (i := 7) (N := some 56) (v := ?_) (a' := ?_) (bm 22 255) rfl rfl (by kernel_rfl) (fun _ _ _ h => h) hHeld (Or.inl ⟨by rfl, ?_⟩) ?_ ?_
    rotate_left
    · intro w' hw'
      have s0 := blk_cell hw' 0
      have s1 := blk_cell hw' 1
      have s2 := blk_cell hw' 2
      have s3 := blk_cell hw' 3
      have s4 := blk_cell hw' 4
      go_simp
      with_reducible rfl
    rotate_left
    · simp only [Act.put, List.setIfInBounds_toArray, List.set_cons_zero, List.set_cons_succ]
      rfl
    refine rg_take (i := 8) (N := some 57) (v := ?_) (a' := ?_) (bm 22 511) rfl rfl (by kernel_rfl) (fun _ _ _ h => h) hHeld (Or.inl ⟨by rfl, ?_⟩) ?_ ?_
    rotate_left
    · intro w' hw'
      have s0 := blk_cell hw' 0
      have s1 := blk_cell hw' 1
      have s2 := blk_cell hw' 2
      have s3 := blk_cell hw' 3
      have s4 := blk_cell hw' 4
      go_simp
      with_reducible rfl
    rotate_left
    · simp only [Act.put, List.setIfInBounds_toArray, List.set_cons_zero, List.set_cons_succ]
      rfl
    refine rg_take (i := 10) (N := some 59) (v := ?_) (a' := ?_) (bm 22 1535) rfl rfl (by kernel_rfl) (fun _ _ _ h => h) hHeld (Or.inl ⟨by rfl, ?_⟩) ?_ ?_
    rotate_left
    · intro w' hw'
      have s0 := blk_cell hw' 0
      have s1 := blk_cell hw' 1
      have s2 := blk_cell hw' 2
      have s3 := blk_cell hw' 3
      have s4 := blk_cell hw' 4
      go_simp
      with_reducible rfl
    rotate_left
    · simp only [Act.put, List.setIfInBounds_toArray, List.set_cons_zero, List.set_cons_succ]
      rfl
    refine rg_take (i := 11) (N := some 60) (v := ?_) (a' := ?_) (bm 22 3583) rfl rfl (by kernel_rfl) (fun _ _ _ h => h) hHeld (Or.inl ⟨by rfl, ?_⟩) ?_ ?_
    rotate_left
    · intro w' hw'
      have s0 := blk_cell hw' 0
      have s1 := blk_cell hw' 1
      have s2 := blk_cell hw' 2
      have s3 := blk_cell hw' 3
      have s4 := blk_cell hw' 4
      go_simp
      with_reducible rfl
    rotate_left
    · simp only [Act.put, List.setIfInBounds_toArray, List.set_cons_zero, List.set_cons_succ]
      rfl
    refine rg_take (i := 12) (N := some 61) (v := ?_) (a' := ?_) (bm 22 7679) rfl rfl (by kernel_rfl) (fun _ _ _ h => h) hHeld (Or.inl ⟨by rfl, ?_⟩) ?_ ?_
    rotate_left
    · intro w' hw'
      have s0 := blk_cell hw' 0
      have s1 := blk_cell hw' 1
      have s2 := blk_cell hw' 2
      have s3 := blk_cell hw' 3
      have s4 := blk_cell hw' 4
      go_simp
      with_reducible rfl
    rotate_left
    · simp only [Act.put, List.setIfInBounds_toArray, List.set_cons_zero, List.set_cons_succ]
      rfl
    refine rg_take (i := 13) (N := some 62) (v := ?_) (a' := ?_) (bm 22 15871) rfl rfl (by kernel_rfl) (fun _ _ _ h => h) hHeld (Or.inl ⟨by rfl, ?_⟩) ?_ ?_
    rotate_left
    · intro w' hw'
      have s0 := blk_cell hw' 0
      have s1 := blk_cell hw' 1
      have s2 := blk_cell hw' 2
      have s3 := blk_cell hw' 3
      have s4 := blk_cell hw' 4
      go_simp
      with_reducible rfl
    rotate_left
    · simp only [Act.put, List.setIfInBounds_toArray, List.set_cons_zero, List.set_cons_succ]
      rfl
    refine rg_take (i := 14) (N := some 63) (v := ?_) (a' := ?_) (bm 22 32255) rfl rfl (by kernel_rfl) (fun _ _ _ h => h) hHeld (Or.inl ⟨by rfl, ?_⟩) ?_ ?_
    rotate_left
    · intro w' hw'
      have s0 := blk_cell hw' 0
      have s1 := blk_cell hw' 1
      have s2 := blk_cell hw' 2
      have s3 := blk_cell hw' 3
      have s4 := blk_cell hw' 4
      go_simp
      with_reducible rfl
    rotate_left
    · simp only [Act.put, List.setIfInBounds_toArray, List.set_cons_zero, List.set_cons_succ]
      rfl
    refine rg_take (i := 15) (N := some 64) (v := ?_) (a' := ?_) (bm 22 65023) rfl rfl (by kernel_rfl) (fun _ _ _ h => h) hHeld (Or.inl ⟨by rfl, ?_⟩) ?_ ?_
    rotate_left
    · intro w' hw'
      have s0 := blk_cell hw' 0
      have s1 := blk_cell hw' 1
      have s2 := blk_cell hw' 2
      have s3 := blk_cell hw' 3
      have s4 := blk_cell hw' 4
      go_simp
      with_reducible rfl
    rotate_left
    · simp only [Act.put, List.setIfInBounds_toArray, List.set_cons_zero, List.set_cons_succ]
      rfl
    refine rg_take (i := 16) (N := some 65) (v := ?_) (a' := ?_) (bm 22 130559) rfl rfl (by kernel_rfl) (fun _ _ _ h => h) hHeld (Or.inl ⟨by rfl, ?_⟩) ?_ ?_
    rotate_left
    · intro w' hw'
      have s0 := blk_cell hw' 0
      have s1 := blk_cell hw' 1
      have s2 := blk_cell hw' 2
      have s3 := blk_cell hw' 3
      have s4 := blk_cell hw' 4
      go_simp
      with_reducible rfl
    rotate_left
    · simp only [Act.put, List.setIfInBounds_toArray, List.set_cons_zero, List.set_cons_succ]
      rfl
    refine rg_take (i := 17) (N := some 66) (v := ?_) (a' := ?_) (bm 22 261631) rfl rfl (by kernel_rfl) (fun _ _ _ h => h) hHeld (Or.inl ⟨by rfl, ?_⟩) ?_ ?_
    rotate_left
    · intro w' hw'
      have s0 := blk_cell hw' 0
      have s1 := blk_cell hw' 1
      have s2 := blk_cell hw' 2
      have s3 := blk_cell hw' 3
      have s4 := blk_cell hw' 4
      go_simp
      with_reducible rfl
    rotate_left
    · simp only [Act.put, List.setIfInBounds_toArray, List.set_cons_zero, List.set_cons_succ]
      rfl
    refine rg_take (i := 18) (N := some 67) (v := ?_) (a' := ?_) (bm 22 523775) rfl rfl (by kernel_rfl) (fun _ _ _ h => h) hHeld (Or.inl ⟨by rfl, ?_⟩) ?_ ?_
    rotate_left
    · intro w' hw'
      have s0 := blk_cell hw' 0
      have s1 := blk_cell hw' 1
      have s2 := blk_cell hw' 2
      have s3 := blk_cell hw' 3
      have s4 := blk_cell hw' 4
      go_simp
      with_reducible rfl
    rotate_left
    · simp only [Act.put, List.setIfInBounds_toArray, List.set_cons_zero, List.set_cons_succ]
      rfl
    refine rg_ready [9] (by kernel_rfl) (by simp) ?_
    refine rg_one (i := 9) (N := some 58) (bm 22 524287) rfl rfl (by kernel_rfl) (fun K hK => ?_) rg_nil
    have HD := Aside0.mk (hwd.out ▸ HSD.out)
    go_simp
    go_at_call 11
    with_reducible refine (memStoreK HD.out HG.out HGD.out HOP.out HBA.out HOF.out HV.out HR.out HB'.out).mono ?_
    rintro e wx9r9 ⟨rfl, hs⟩
    have HD1 := Aside0.mk (hs.pick3 [1, 0, 2])
    have hnew := (hs.pick3 [2]).blk
    clear hs
    go_wp2_with fail
    refine hK.out _ _ hnew ?_
    clear hK K
    refine rg_norm (a' := ?_) ?_ ?_
    rotate_left
    · simp only [Act.put, List.setIfInBounds_toArray, List.set_cons_zero, List.set_cons_succ]
      rfl
    clear hHeld
    have hHeld := hnew
    clear hnew
    refine rg_ready [19] (by kernel_rfl) (by simp) ?_
    refine rg_one (i := 19) (N := some 68) (bm 22 1048575) rfl rfl (by kernel_rfl) (fun K hK => ?_) rg_nil
    go_simp
    go_at_call 34
    with_reducible refine (refStoreK HD1.out HGD.out HOP.out HBA.out HOF.out HV.out HR.out HB'.out).mono ?_
    rintro e wx9x19r9 ⟨rfl, hs⟩
    have HD2 := Aside0.mk (hs.pick3 [1, 0, 2])
    have hnew := (hs.pick3 [2]).blk
    clear hs
    go_wp2_with fail
    refine hK.out _ _ hnew ?_
    clear hK K
    refine rg_norm (a' := ?_) ?_ ?_
    rotate_left
    · simp only [Act.put, List.setIfInBounds_toArray, List.set_cons_zero, List.set_cons_succ]
      rfl
    clear hHeld
    have hHeld := hnew
    clear hnew
    refine rg_take (i := 20) (N := some 69) (v := ?_) (a' := ?_) (bm 22 2097151) rfl rfl (by kernel_rfl) (fun _ _ _ h => h) hHeld (Or.inl ⟨by rfl, ?_⟩) ?_ ?_
    rotate_left
    · intro w' hw'
      have s0 := blk_cell hw' 0
      have s1 := blk_cell hw' 1
      have s2 := blk_cell hw' 2
      have s3 := blk_cell hw' 3
      have s4 := blk_cell hw' 4
      go_simp
      with_reducible rfl
    rotate_left
    · simp only [Act.put, List.setIfInBounds_toArray, List.set_cons_zero, List.set_cons_succ]
      rfl
    refine rg_take (i := 21) (N := some 6) (v := ?_) (a' := ?_) (bm 22 4194303) rfl rfl (by kernel_rfl) (fun _ _ _ h => h) hHeld (Or.inl ⟨by rfl, ?_⟩) ?_ ?_
    rotate_left
    · intro w' hw'
      have s0 := blk_cell hw' 0
      have s1 := blk_cell hw' 1
      have s2 := blk_cell hw' 2
      have s3 := blk_cell hw' 3
      have s4 := blk_cell hw' 4
      go_simp
      with_reducible rfl
    rotate_left
    · simp only [Act.put, List.setIfInBounds_toArray, List.set_cons_zero, List.set_cons_succ]
      rfl
    refine rg_done (by kernel_rfl) ?_
    go_wp2
    go_ret
    exact ⟨by simp, HD2.out.pick3 [0, 1]⟩
  by_cases h3 : wh = 3
  · subst h3
    have e : m' = { m with b := (mStore m.b op base off v).getD m.b } := hm'.symm
    obtain ⟨r, hr⟩ : ∃ r, (mStore m.b op base off v).isSome = r := ⟨_, rfl⟩
    obtain ⟨b', hb''⟩ : ∃ b', (mStore m.b op base off v).getD m.b = b' := ⟨_, rfl⟩
    rw [hb''] at e
    subst e
    have HR := Aside0.mk hr
    have HB' := Aside0.mk hb''
    clear hm' hr hb''
    have HSD := Aside0.mk HS.out.drew
    have hbd : _ = some (Obj.cells #[.int .i64 3, .int .i64 op, .int .u64 base, .int .u64 off, .int .u64 v, .int .i64 at_, .int .i64 n, .slice A l.length c] 57 (0, 0)) := (HSD.out.pick3 [2]).blk
    have s0 := blk_cell ((HS.out.pick3 [2]).blk) 0
    go_enter Tryd.func24, Tryd.ntmps24
    go_wp2
    refine rg_startL (n := 22) (S := fun w' => w'.heap[b]? = some (.cells #[.int .i64 3, .int .i64 op, .int .u64 base, .int .u64 off, .int .u64 v, .int .i64 at_, .int .i64 n, .slice A l.length c] 57 (0, 0))) (bm 22 0) (by kernel_rfl) rfl (by kernel_rfl) (hbd) (fun wd hwd hHeld => ?_)
    refine rg_take (i := 0) (N := some 49) (v := ?_) (a' := ?_) (bm 22 1) rfl rfl (by kernel_rfl) (fun _ _ _ h => h) hHeld (Or.inl ⟨by rfl, ?_⟩) ?_ ?_
    rotate_left
    · intro w' hw'
      have s0 := blk_cell hw' 0
      have s1 := blk_cell hw' 1
      have s2 := blk_cell hw' 2
      have s3 := blk_cell hw' 3
      have s4 := blk_cell hw' 4
      go_simp
      with_reducible rfl
    rotate_left
    · simp only [Act.put, List.setIfInBounds_toArray, List.set_cons_zero, List.set_cons_succ]
      rfl
    refine rg_take (i := 1) (N := some 50) (v := ?_) (a' := ?_) (bm 22 3) rfl rfl (by kernel_rfl) (fun _ _ _ h => h) hHeld (Or.inl ⟨by rfl, ?_⟩) ?_ ?_
    rotate_left
    · intro w' hw'
      have s0 := blk_cell hw' 0
      have s1 := blk_cell hw' 1
      have s2 := blk_cell hw' 2
      have s3 := blk_cell hw' 3
      have s4 := blk_cell hw' 4
      go_simp
      with_reducible rfl
    rotate_left
    · simp only [Act.put, List.setIfInBounds_toArray, List.set_cons_zero, List.set_cons_succ]
      rfl
    refine rg_take (i := 2) (N := some 51) (v := ?_) (a' := ?_) (bm 22 7) rfl rfl (by kernel_rfl) (fun _ _ _ h => h) hHeld (Or.inl ⟨by rfl, ?_⟩) ?_ ?_
    rotate_left
    · intro w' hw'
      have s0 := blk_cell hw' 0
      have s1 := blk_cell hw' 1
      have s2 := blk_cell hw' 2
      have s3 := blk_cell hw' 3
      have s4 := blk_cell hw' 4
      go_simp
      with_reducible rfl
    rotate_left
    · simp only [Act.put, List.setIfInBounds_toArray, List.set_cons_zero, List.set_cons_succ]
      rfl
    refine rg_take (i := 3) (N := some 52) (v := ?_) (a' := ?_) (bm 22 15) rfl rfl (by kernel_rfl) (fun _ _ _ h => h) hHeld (Or.inl ⟨by rfl, ?_⟩) ?_ ?_
    rotate_left
    · intro w' hw'
      have s0 := blk_cell hw' 0
      have s1 := blk_cell hw' 1
      have s2 := blk_cell hw' 2
      have s3 := blk_cell hw' 3
      have s4 := blk_cell hw' 4
      go_simp
      with_reducible rfl
    rotate_left
    · simp only [Act.put, List.setIfInBounds_toArray, List.set_cons_zero, List.set_cons_succ]
      rfl
    refine rg_take (i := 4) (N := some 53) (v := ?_) (a' := ?_) (bm 22 31) rfl rfl (by kernel_rfl) (fun _ _ _ h => h) hHeld (Or.inl ⟨by rfl, ?_⟩) ?_ ?_
    rotate_left
    · intro w' hw'
      have s0 := blk_cell hw' 0
      have s1 := blk_cell hw' 1
      have s2 := blk_cell hw' 2
      have s3 := blk_cell hw' 3
      have s4 := blk_cell hw' 4
      go_simp
      with_reducible rfl
    rotate_left
    · simp only [Act.put, List.setIfInBounds_toArray, List.set_cons_zero, List.set_cons_succ]
      rfl
    refine rg_take (i := 5) (N := some 54) (v := ?_) (a' := ?_) (bm 22 63) rfl rfl (by kernel_rfl) (fun _ _ _ h => h) hHeld (Or.inl ⟨by rfl, ?_⟩) ?_ ?_
    rotate_left
    · intro w' hw'
      have s0 := blk_cell hw' 0
      have s1 := blk_cell hw' 1
      have s2 := blk_cell hw' 2
      have s3 := blk_cell hw' 3
      have s4 := blk_cell hw' 4
      go_simp
      with_reducible rfl
    rotate_left
    · simp only [Act.put, List.setIfInBounds_toArray, List.set_cons_zero, List.set_cons_succ]
      rfl
    refine rg_take (i := 6) (N := some 55) (v := ?_) (a' := ?_) (bm 22 127) rfl rfl (by kernel_rfl) (fun _ _ _ h => h) hHeld (Or.inl ⟨by rfl, ?_⟩) ?_ ?_
    rotate_left
    · intro w' hw'
      have s0 := blk_cell hw' 0
      have s1 := blk_cell hw' 1
      have s2 := blk_cell hw' 2
      have s3 := blk_cell hw' 3
      have s4 := blk_cell hw' 4
      go_simp
      with_reducible rfl
    rotate_left
    · simp only [Act.put, List.setIfInBounds_toArray, List.set_cons_zero, List.set_cons_succ]
      rfl
    refine rg_take (i := 7) (N := some 56) (v := ?_) (a' := ?_) (bm 22 255) rfl rfl (by kernel_rfl) (fun _ _ _ h => h) hHeld (Or.inl ⟨by rfl, ?_⟩) ?_ ?_
    rotate_left
    · intro w' hw'
      have s0 := blk_cell hw' 0
      have s1 := blk_cell hw' 1
      have s2 := blk_cell hw' 2
      have s3 := blk_cell hw' 3
      have s4 := blk_cell hw' 4
      go_simp
      with_reducible rfl
    rotate_left
    · simp only [Act.put, List.setIfInBounds_toArray, List.set_cons_zero, List.set_cons_succ]
      rfl
    refine rg_take (i := 8) (N := some 57) (v := ?_) (a' := ?_) (bm 22 511) rfl rfl (by kernel_rfl) (fun _ _ _ h => h) hHeld (Or.inl ⟨by rfl, ?_⟩) ?_ ?_
    rotate_left
    · intro w' hw'
      have s0 := blk_cell hw' 0
      have s1 := blk_cell hw' 1
      have s2 := blk_cell hw' 2
      have s3 := blk_cell hw' 3
      have s4 := blk_cell hw' 4
      go_simp
      with_reducible rfl
    rotate_left
    · simp only [Act.put, List.setIfInBounds_toArray, List.set_cons_zero, List.set_cons_succ]
      rfl
    refine rg_take (i := 10) (N := some 59) (v := ?_) (a' := ?_) (bm 22 1535) rfl rfl (by kernel_rfl) (fun _ _ _ h => h) hHeld (Or.inl ⟨by rfl, ?_⟩) ?_ ?_
    rotate_left
    · intro w' hw'
      have s0 := blk_cell hw' 0
      have s1 := blk_cell hw' 1
      have s2 := blk_cell hw' 2
      have s3 := blk_cell hw' 3
      have s4 := blk_cell hw' 4
      go_simp
      with_reducible rfl
    rotate_left
    · simp only [Act.put, List.setIfInBounds_toArray, List.set_cons_zero, List.set_cons_succ]
      rfl
    refine rg_take (i := 11) (N := some 60) (v := ?_) (a' := ?_) (bm 22 3583) rfl rfl (by kernel_rfl) (fun _ _ _ h => h) hHeld (Or.inl ⟨by rfl, ?_⟩) ?_ ?_
    rotate_left
    · intro w' hw'
      have s0 := blk_cell hw' 0
      have s1 := blk_cell hw' 1
      have s2 := blk_cell hw' 2
      have s3 := blk_cell hw' 3
      have s4 := blk_cell hw' 4
      go_simp
      with_reducible rfl
    rotate_left
    · simp only [Act.put, List.setIfInBounds_toArray, List.set_cons_zero, List.set_cons_succ]
      rfl
    refine rg_take (i := 12) (N := some 61) (v := ?_) (a' := ?_) (bm 22 7679) rfl rfl (by kernel_rfl) (fun _ _ _ h => h) hHeld (Or.inl ⟨by rfl, ?_⟩) ?_ ?_
    rotate_left
    · intro w' hw'
      have s0 := blk_cell hw' 0
      have s1 := blk_cell hw' 1
      have s2 := blk_cell hw' 2
      have s3 := blk_cell hw' 3
      have s4 := blk_cell hw' 4
      go_simp
      with_reducible rfl
    rotate_left
    · simp only [Act.put, List.setIfInBounds_toArray, List.set_cons_zero, List.set_cons_succ]
      rfl
    refine rg_take (i := 13) (N := some 62) (v := ?_) (a' := ?_) (bm 22 15871) rfl rfl (by kernel_rfl) (fun _ _ _ h => h) hHeld (Or.inl ⟨by rfl, ?_⟩) ?_ ?_
    rotate_left
    · intro w' hw'
      have s0 := blk_cell hw' 0
      have s1 := blk_cell hw' 1
      have s2 := blk_cell hw' 2
      have s3 := blk_cell hw' 3
      have s4 := blk_cell hw' 4
      go_simp
      with_reducible rfl
    rotate_left
    · simp only [Act.put, List.setIfInBounds_toArray, List.set_cons_zero, List.set_cons_succ]
      rfl
    refine rg_take (i := 14) (N := some 63) (v := ?_) (a' := ?_) (bm 22 32255) rfl rfl (by kernel_rfl) (fun _ _ _ h => h) hHeld (Or.inl ⟨by rfl, ?_⟩) ?_ ?_
    rotate_left
    · intro w' hw'
      have s0 := blk_cell hw' 0
      have s1 := blk_cell hw' 1
      have s2 := blk_cell hw' 2
      have s3 := blk_cell hw' 3
      have s4 := blk_cell hw' 4
      go_simp
      with_reducible rfl
    rotate_left
    · simp only [Act.put, List.setIfInBounds_toArray, List.set_cons_zero, List.set_cons_succ]
      rfl
    refine rg_take (i := 15) (N := some 64) (v := ?_) (a' := ?_) (bm 22 65023) rfl rfl (by kernel_rfl) (fun _ _ _ h => h) hHeld (Or.inl ⟨by rfl, ?_⟩) ?_ ?_
    rotate_left
    · intro w' hw'
      have s0 := blk_cell hw' 0
      have s1 := blk_cell hw' 1
      have s2 := blk_cell hw' 2
      have s3 := blk_cell hw' 3
      have s4 := blk_cell hw' 4
      go_simp
      with_reducible rfl
    rotate_left
    · simp only [Act.put, List.setIfInBounds_toArray, List.set_cons_zero, List.set_cons_succ]
      rfl
    refine rg_take (i := 16) (N := some 65) (v := ?_) (a' := ?_) (bm 22 130559) rfl rfl (by kernel_rfl) (fun _ _ _ h => h) hHeld (Or.inl ⟨by rfl, ?_⟩) ?_ ?_
    rotate_left
    · intro w' hw'
      have s0 := blk_cell hw' 0
      have s1 := blk_cell hw' 1
      have s2 := blk_cell hw' 2
      have s3 := blk_cell hw' 3
      have s4 := blk_cell hw' 4
      go_simp
      with_reducible rfl
    rotate_left
    · simp only [Act.put, List.setIfInBounds_toArray, List.set_cons_zero, List.set_cons_succ]
      rfl
    refine rg_take (i := 17) (N := some 66) (v := ?_) (a' := ?_) (bm 22 261631) rfl rfl (by kernel_rfl) (fun _ _ _ h => h) hHeld (Or.inl ⟨by rfl, ?_⟩) ?_ ?_
    rotate_left
    · intro w' hw'
      have s0 := blk_cell hw' 0
      have s1 := blk_cell hw' 1
      have s2 := blk_cell hw' 2
      have s3 := blk_cell hw' 3
      have s4 := blk_cell hw' 4
      go_simp
      with_reducible rfl
    rotate_left
    · simp only [Act.put, List.setIfInBounds_toArray, List.set_cons_zero, List.set_cons_succ]
      rfl
    refine rg_take (i := 18) (N := some 67) (v := ?_) (a' := ?_) (bm 22 523775) rfl rfl (by kernel_rfl) (fun _ _ _ h => h) hHeld (Or.inl ⟨by rfl, ?_⟩) ?_ ?_
    rotate_left
    · intro w' hw'
      have s0 := blk_cell hw' 0
      have s1 := blk_cell hw' 1
      have s2 := blk_cell hw' 2
      have s3 := blk_cell hw' 3
      have s4 := blk_cell hw' 4
      go_simp
      with_reducible rfl
    rotate_left
    · simp only [Act.put, List.setIfInBounds_toArray, List.set_cons_zero, List.set_cons_succ]
      rfl
    refine rg_ready [9] (by kernel_rfl) (by simp) ?_
    refine rg_one (i := 9) (N := some 58) (bm 22 524287) rfl rfl (by kernel_rfl) (fun K hK => ?_) rg_nil
    have HD := Aside0.mk (hwd.out ▸ HSD.out)
    go_simp
    go_at_call 11
    with_reducible refine (memStoreK HD.out HG.out HGD.out HOP.out HBA.out HOF.out HV.out HR.out HB'.out).mono ?_
    rintro e wx9r9 ⟨rfl, hs⟩
    have HD1 := Aside0.mk (hs.pick3 [1, 0, 2])
    have hnew := (hs.pick3 [2]).blk
    clear hs
    go_wp2_with fail
    refine hK.out _ _ hnew ?_
    clear hK K
    refine rg_norm (a' := ?_) ?_ ?_
    rotate_left
    · simp only [Act.put, List.setIfInBounds_toArray, List.set_cons_zero, List.set_cons_succ]
      rfl
    clear hHeld
    have hHeld := hnew
    clear hnew
    refine rg_ready [19] (by kernel_rfl) (by simp) ?_
    refine rg_one (i := 19) (N := some 68) (bm 22 1048575) rfl rfl (by kernel_rfl) (fun K hK => ?_) rg_nil
    go_simp
    go_at_call 34
    with_reducible refine (refStoreK HD1.out HGD.out HOP.out HBA.out HOF.out HV.out HR.out HB'.out).mono ?_
    rintro e wx9x19r9 ⟨rfl, hs⟩
    have HD2 := Aside0.mk (hs.pick3 [1, 0, 2])
    have hnew := (hs.pick3 [2]).blk
    clear hs
    go_wp2_with fail
    refine hK.out _ _ hnew ?_
    clear hK K
    refine rg_norm (a' := ?_) ?_ ?_
    rotate_left
    · simp only [Act.put, List.setIfInBounds_toArray, List.set_cons_zero, List.set_cons_succ]
      rfl
    clear hHeld
    have hHeld := hnew
    clear hnew
    refine rg_take (i := 20) (N := some 69) (v := ?_) (a' := ?_) (bm 22 2097151) rfl rfl (by kernel_rfl) (fun _ _ _ h => h) hHeld (Or.inl ⟨by rfl, ?_⟩) ?_ ?_
    rotate_left
    · intro w' hw'
      have s0 := blk_cell hw' 0
      have s1 := blk_cell hw' 1
      have s2 := blk_cell hw' 2
      have s3 := blk_cell hw' 3
      have s4 := blk_cell hw' 4
      go_simp
      with_reducible rfl
    rotate_left
    · simp only [Act.put, List.setIfInBounds_toArray, List.set_cons_zero, List.set_cons_succ]
      rfl
    refine rg_take (i := 21) (N := some 6) (v := ?_) (a' := ?_) (bm 22 4194303) rfl rfl (by kernel_rfl) (fun _ _ _ h => h) hHeld (Or.inl ⟨by rfl, ?_⟩) ?_ ?_
    rotate_left
    · intro w' hw'
      have s0 := blk_cell hw' 0
      have s1 := blk_cell hw' 1
      have s2 := blk_cell hw' 2
      have s3 := blk_cell hw' 3
      have s4 := blk_cell hw' 4
      go_simp
      with_reducible rfl
    rotate_left
    · simp only [Act.put, List.setIfInBounds_toArray, List.set_cons_zero, List.set_cons_succ]
      rfl
    refine rg_done (by kernel_rfl) ?_
    go_wp2
    go_ret
    exact ⟨by simp, HD2.out.pick3 [0, 1]⟩
  by_cases h4 : wh = 4
  · subst h4
    have e : m' = { m with b := (mGrow m pg n).getD m.b } := hm'.symm
    obtain ⟨r, hr⟩ : ∃ r, (if (mGrow m pg n).isSome then (pg : Int) else -1) = r := ⟨_, rfl⟩
    obtain ⟨b', hb''⟩ : ∃ b', (mGrow m pg n).getD m.b = b' := ⟨_, rfl⟩
    rw [hb''] at e
    subst e
    have HR := Aside0.mk hr
    have HB' := Aside0.mk hb''
    clear hm' hr hb''
    have HSD := Aside0.mk HS.out.drew
    have hbd : _ = some (Obj.cells #[.int .i64 4, .int .i64 op, .int .u64 base, .int .u64 off, .int .u64 v, .int .i64 at_, .int .i64 n, .slice A l.length c] 57 (0, 0)) := (HSD.out.pick3 [2]).blk
    have s0 := blk_cell ((HS.out.pick3 [2]).blk) 0
    go_enter Tryd.func24, Tryd.ntmps24
    go_wp2
    refine rg_startL (n := 10) (S := fun w' => w'.heap[b]? = some (.cells #[.int .i64 4, .int .i64 op, .int .u64 base, .int .u64 off, .int .u64 v, .int .i64 at_, .int .i64 n, .slice A l.length c] 57 (0, 0))) (bm 10 0) (by kernel_rfl) rfl (by kernel_rfl) (hbd) (fun wd hwd hHeld => ?_)
    refine rg_take (i := 0) (N := some 72) (v := ?_) (a' := ?_) (bm 10 1) rfl rfl (by kernel_rfl) (fun _ _ _ h => h) hHeld (Or.inl ⟨by rfl, ?_⟩) ?_ ?_
    rotate_left
    · intro w' hw'
      have s0 := blk_cell hw' 0
      have s6 := blk_cell hw' 6
      go_simp
      with_reducible rfl
    rotate_left
    · simp only [Act.put, List.setIfInBounds_toArray, List.set_cons_zero, List.set_cons_succ]
      rfl
    refine rg_take (i := 1) (N := some 73) (v := ?_) (a' := ?_) (bm 10 3) rfl rfl (by kernel_rfl) (fun _ _ _ h => h) hHeld (Or.inl ⟨by rfl, ?_⟩) ?_ ?_
    rotate_left
    · intro w' hw'
      have s0 := blk_cell hw' 0
      have s6 := blk_cell hw' 6
      go_simp
      with_reducible rfl
    rotate_left
    · simp only [Act.put, List.setIfInBounds_toArray, List.set_cons_zero, List.set_cons_succ]
      rfl
    refine rg_take (i := 2) (N := some 74) (v := ?_) (a' := ?_) (bm 10 7) rfl rfl (by kernel_rfl) (fun _ _ _ h => h) hHeld (Or.inl ⟨by rfl, ?_⟩) ?_ ?_
    rotate_left
    · intro w' hw'
      have s0 := blk_cell hw' 0
      have s6 := blk_cell hw' 6
      go_simp
      with_reducible rfl
    rotate_left
    · simp only [Act.put, List.setIfInBounds_toArray, List.set_cons_zero, List.set_cons_succ]
      rfl
    refine rg_take (i := 4) (N := some 76) (v := ?_) (a' := ?_) (bm 10 23) rfl rfl (by kernel_rfl) (fun _ _ _ h => h) hHeld (Or.inl ⟨by rfl, ?_⟩) ?_ ?_
    rotate_left
    · intro w' hw'
      have s0 := blk_cell hw' 0
      have s6 := blk_cell hw' 6
      go_simp
      with_reducible rfl
    rotate_left
    · simp only [Act.put, List.setIfInBounds_toArray, List.set_cons_zero, List.set_cons_succ]
      rfl
    refine rg_take (i := 5) (N := some 77) (v := ?_) (a' := ?_) (bm 10 55) rfl rfl (by kernel_rfl) (fun _ _ _ h => h) hHeld (Or.inl ⟨by rfl, ?_⟩) ?_ ?_
    rotate_left
    · intro w' hw'
      have s0 := blk_cell hw' 0
      have s6 := blk_cell hw' 6
      go_simp
      with_reducible rfl
    rotate_left
    · simp only [Act.put, List.setIfInBounds_toArray, List.set_cons_zero, List.set_cons_succ]
      rfl
    refine rg_take (i := 6) (N := some 78) (v := ?_) (a' := ?_) (bm 10 119) rfl rfl (by kernel_rfl) (fun _ _ _ h => h) hHeld (Or.inl ⟨by rfl, ?_⟩) ?_ ?_
    rotate_left
    · intro w' hw'
      have s0 := blk_cell hw' 0
      have s6 := blk_cell hw' 6
      go_simp
      with_reducible rfl
    rotate_left
    · simp only [Act.put, List.setIfInBounds_toArray, List.set_cons_zero, List.set_cons_succ]
      rfl
    refine rg_ready [3] (by kernel_rfl) (by simp) ?_
    refine rg_one (i := 3) (N := some 75) (bm 10 127) rfl rfl (by kernel_rfl) (fun K hK => ?_) rg_nil
    have HD := Aside0.mk (hwd.out ▸ HSD.out)
    go_simp
    go_at_call 20
    with_reducible refine (memGrowK HD.out HP.out HN.out HR.out HB'.out).mono ?_
    rintro e wx3r11 ⟨rfl, hs⟩
    have HD1 := Aside0.mk (hs.pick3 [1, 0, 2])
    have hnew := (hs.pick3 [2]).blk
    clear hs
    go_wp2_with fail
    refine hK.out _ _ hnew ?_
    clear hK K
    refine rg_norm (a' := ?_) ?_ ?_
    rotate_left
    · simp only [Act.put, List.setIfInBounds_toArray, List.set_cons_zero, List.set_cons_succ]
      rfl
    clear hHeld
    have hHeld := hnew
    clear hnew
    refine rg_ready [7] (by kernel_rfl) (by simp) ?_
    refine rg_one (i := 7) (N := some 79) (bm 10 255) rfl rfl (by kernel_rfl) (fun K hK => ?_) rg_nil
    go_simp
    go_at_call 35
    with_reducible refine (refGrowK HD1.out HP.out HN.out HR.out HB'.out).mono ?_
    rintro e wx3x7r11 ⟨rfl, hs⟩
    have HD2 := Aside0.mk (hs.pick3 [1, 0, 2])
    have hnew := (hs.pick3 [2]).blk
    clear hs
    go_wp2_with fail
    refine hK.out _ _ hnew ?_
    clear hK K
    refine rg_norm (a' := ?_) ?_ ?_
    rotate_left
    · simp only [Act.put, List.setIfInBounds_toArray, List.set_cons_zero, List.set_cons_succ]
      rfl
    clear hHeld
    have hHeld := hnew
    clear hnew
    refine rg_take (i := 8) (N := some 80) (v := ?_) (a' := ?_) (bm 10 511) rfl rfl (by kernel_rfl) (fun _ _ _ h => h) hHeld (Or.inl ⟨by rfl, ?_⟩) ?_ ?_
    rotate_left
    · intro w' hw'
      have s0 := blk_cell hw' 0
      have s6 := blk_cell hw' 6
      go_simp
      with_reducible rfl
    rotate_left
    · simp only [Act.put, List.setIfInBounds_toArray, List.set_cons_zero, List.set_cons_succ]
      rfl
    refine rg_take (i := 9) (N := some 6) (v := ?_) (a' := ?_) (bm 10 1023) rfl rfl (by kernel_rfl) (fun _ _ _ h => h) hHeld (Or.inl ⟨by rfl, ?_⟩) ?_ ?_
    rotate_left
    · intro w' hw'
      have s0 := blk_cell hw' 0
      have s6 := blk_cell hw' 6
      go_simp
      with_reducible rfl
    rotate_left
    · simp only [Act.put, List.setIfInBounds_toArray, List.set_cons_zero, List.set_cons_succ]
      rfl
    refine rg_done (by kernel_rfl) ?_
    go_wp2
    go_ret
    exact ⟨by simp, HD2.out.pick3 [0, 1]⟩
  by_cases h5 : wh = 5
  · subst h5
    have e : m' = m := hm'.symm
    subst e
    clear hm'
    obtain ⟨ys, hys⟩ : ∃ ys, mBytes m'.b at_ n = ys := ⟨_, rfl⟩
    have HYS := Aside0.mk hys
    have HSD := Aside0.mk HS.out.drew
    have s0 := blk_cell ((HS.out.pick3 [2]).blk) 0
    clear hys
    go_enter Tryd.func24, Tryd.ntmps24
    go_wp2
    have hbd : _ = some (Obj.cells #[.int .i64 5, .int .i64 op, .int .u64 base, .int .u64 off, .int .u64 v, .int .i64 at_, .int .i64 n, .slice A l.length c] 57 (0, 0)) := (HSD.out.pick3 [2]).blk
    refine rg_startL (n := 16) (S := fun w' => w'.heap[b]? = some (.cells #[.int .i64 5, .int .i64 op, .int .u64 base, .int .u64 off, .int .u64 v, .int .i64 at_, .int .i64 n, .slice A l.length c] 57 (0, 0))) (bm 16 0) (by kernel_rfl) rfl (by kernel_rfl) (hbd) (fun wd hwd hHeld => ?_)
    refine rg_take (i := 0) (N := some 83) (v := ?_) (a' := ?_) (bm 16 1) rfl rfl (by kernel_rfl) (fun _ _ _ h => h) hHeld (Or.inl ⟨by rfl, ?_⟩) ?_ ?_
    rotate_left
    · intro w' hw'
      go_simp
      with_reducible rfl
    rotate_left
    · simp only [Act.put, List.setIfInBounds_toArray, List.set_cons_zero, List.set_cons_succ]
      rfl
    refine rg_take (i := 1) (N := some 84) (v := ?_) (a' := ?_) (bm 16 3) rfl rfl (by kernel_rfl) (fun _ _ _ h => h) hHeld (Or.inl ⟨by rfl, ?_⟩) ?_ ?_
    rotate_left
    · intro w' hw'
      go_simp
      with_reducible rfl
    rotate_left
    · simp only [Act.put, List.setIfInBounds_toArray, List.set_cons_zero, List.set_cons_succ]
      rfl
    refine rg_take (i := 2) (N := some 85) (v := ?_) (a' := ?_) (bm 16 7) rfl rfl (by kernel_rfl) (fun _ _ _ h => h) hHeld (Or.inl ⟨by rfl, ?_⟩) ?_ ?_
    rotate_left
    · intro w' hw'
      have s5 := blk_cell hw' 5
      go_simp
      with_reducible rfl
    rotate_left
    · simp only [Act.put, List.setIfInBounds_toArray, List.set_cons_zero, List.set_cons_succ]
      rfl
    refine rg_take (i := 3) (N := some 86) (v := ?_) (a' := ?_) (bm 16 15) rfl rfl (by kernel_rfl) (fun _ _ _ h => h) hHeld (Or.inl ⟨by rfl, ?_⟩) ?_ ?_
    rotate_left
    · intro w' hw'
      go_simp
      with_reducible rfl
    rotate_left
    · simp only [Act.put, List.setIfInBounds_toArray, List.set_cons_zero, List.set_cons_succ]
      rfl
    refine rg_take (i := 4) (N := some 87) (v := ?_) (a' := ?_) (bm 16 31) rfl rfl (by kernel_rfl) (fun _ _ _ h => h) hHeld (Or.inl ⟨by rfl, ?_⟩) ?_ ?_
    rotate_left
    · intro w' hw'
      have s6 := blk_cell hw' 6
      go_simp
      with_reducible rfl
    rotate_left
    · simp only [Act.put, List.setIfInBounds_toArray, List.set_cons_zero, List.set_cons_succ]
      rfl
    refine rg_take (i := 7) (N := some 90) (v := ?_) (a' := ?_) (bm 16 159) rfl rfl (by kernel_rfl) (fun _ _ _ h => h) hHeld (Or.inl ⟨by rfl, ?_⟩) ?_ ?_
    rotate_left
    · intro w' hw'
      go_simp
      with_reducible rfl
    rotate_left
    · simp only [Act.put, List.setIfInBounds_toArray, List.set_cons_zero, List.set_cons_succ]
      rfl
    refine rg_take (i := 8) (N := some 91) (v := ?_) (a' := ?_) (bm 16 415) rfl rfl (by kernel_rfl) (fun _ _ _ h => h) hHeld (Or.inl ⟨by rfl, ?_⟩) ?_ ?_
    rotate_left
    · intro w' hw'
      go_simp
      with_reducible rfl
    rotate_left
    · simp only [Act.put, List.setIfInBounds_toArray, List.set_cons_zero, List.set_cons_succ]
      rfl
    refine rg_take (i := 9) (N := some 92) (v := ?_) (a' := ?_) (bm 16 927) rfl rfl (by kernel_rfl) (fun _ _ _ h => h) hHeld (Or.inl ⟨by rfl, ?_⟩) ?_ ?_
    rotate_left
    · intro w' hw'
      have s5 := blk_cell (show w'.heap[b]? = some (Obj.cells #[.int .i64 5, .int .i64 op, .int .u64 base, .int .u64 off, .int .u64 v, .int .i64 at_, .int .i64 n, .slice A l.length c] 57 (0, 0)) from by first | exact hw' | exact hw'.1 | exact hw'.1.1) 5
      go_simp
      with_reducible rfl
    rotate_left
    · simp only [Act.put, List.setIfInBounds_toArray, List.set_cons_zero, List.set_cons_succ]
      rfl
    refine rg_take (i := 10) (N := some 93) (v := ?_) (a' := ?_) (bm 16 1951) rfl rfl (by kernel_rfl) (fun _ _ _ h => h) hHeld (Or.inl ⟨by rfl, ?_⟩) ?_ ?_
    rotate_left
    · intro w' hw'
      go_simp
      with_reducible rfl
    rotate_left
    · simp only [Act.put, List.setIfInBounds_toArray, List.set_cons_zero, List.set_cons_succ]
      rfl
    refine rg_take (i := 11) (N := some 94) (v := ?_) (a' := ?_) (bm 16 3999) rfl rfl (by kernel_rfl) (fun _ _ _ h => h) hHeld (Or.inl ⟨by rfl, ?_⟩) ?_ ?_
    rotate_left
    · intro w' hw'
      have s6 := blk_cell (show w'.heap[b]? = some (Obj.cells #[.int .i64 5, .int .i64 op, .int .u64 base, .int .u64 off, .int .u64 v, .int .i64 at_, .int .i64 n, .slice A l.length c] 57 (0, 0)) from by first | exact hw' | exact hw'.1 | exact hw'.1.1) 6
      go_simp
      with_reducible rfl
    rotate_left
    · simp only [Act.put, List.setIfInBounds_toArray, List.set_cons_zero, List.set_cons_succ]
      rfl
    refine rg_ready [5] (by kernel_rfl) (by simp) ?_
    refine rg_one (i := 5) (N := some 88) (bm 16 4031) rfl rfl (by kernel_rfl) (fun K hK => ?_) rg_nil
    have hbe : _ = some (Obj.cells #[.int .i64 5, .int .i64 op, .int .u64 base, .int .u64 off, .int .u64 v, .int .i64 at_, .int .i64 n, .slice A l.length c] 57 (0, 0)) := hwd.out ▸ hbd
    have s5 := blk_cell hbe 5
    have s6 := blk_cell hbe 6
    have HD := Aside0.mk (hwd.out ▸ HSD.out)
    go_simp
    go_at_call 16
    with_reducible refine (memBytesK HD.out HGD.out HAT.out HN.out HYS.out).mono ?_
    rintro e wx5r13 ⟨v5, rfl, hs⟩
    have HD1 := Aside0.mk (hs.pick4 [2, 0, 1, 3])
    have hnew : wx5r13.heap[b]? = some (.cells #[.int .i64 5, .int .i64 op, .int .u64 base, .int .u64 off, .int .u64 v, .int .i64 at_, .int .i64 n, .slice A l.length c] 57 (0, 0)) ∧ (convert 39 9 v5).run Tryd.prog wx5r13 = .ok (.string (strOfNums ys)) wx5r13 := ⟨(hs.pick4 [3]).blk, hs.str⟩
    have himp : ∀ W : World, (W.heap[b]? = some (.cells #[.int .i64 5, .int .i64 op, .int .u64 base, .int .u64 off, .int .u64 v, .int .i64 at_, .int .i64 n, .slice A l.length c] 57 (0, 0)) ∧ (convert 39 9 v5).run Tryd.prog W = .ok (.string (strOfNums ys)) W) → W.heap[b]? = some (.cells #[.int .i64 5, .int .i64 op, .int .u64 base, .int .u64 off, .int .u64 v, .int .i64 at_, .int .i64 n, .slice A l.length c] 57 (0, 0)) := fun W h => h.1
    clear hs s5 s6 hbe
    go_wp2_with fail
    refine hK.out _ _ (himp _ hnew) ?_
    clear hK K
    refine rg_norm (a' := ?_) ?_ ?_
    rotate_left
    · simp only [Act.put, List.setIfInBounds_toArray, List.set_cons_zero, List.set_cons_succ]
      rfl
    refine rg_imp himp ?_
    clear himp
    clear hHeld
    have hHeld := hnew
    clear hnew
    refine rg_take (i := 6) (N := some 89) (v := ?_) (a' := ?_) (bm 16 4095) rfl rfl (by kernel_rfl) (fun _ _ _ h => h) hHeld (Or.inl ⟨by rfl, ?_⟩) ?_ ?_
    rotate_left
    · intro w' hw'
      have hst := hw'.2
      go_simp
      with_reducible rfl
    rotate_left
    · simp only [Act.put, List.setIfInBounds_toArray, List.set_cons_zero, List.set_cons_succ]
      rfl
    refine rg_ready [12] (by kernel_rfl) (by simp) ?_
    refine rg_one (i := 12) (N := some 95) (bm 16 8191) rfl rfl (by kernel_rfl) (fun K hK => ?_) rg_nil
    go_simp
    go_at_call 36
    with_reducible refine (refBytesK HD1.out HGD.out HAT.out HN.out HYS.out).mono ?_
    rintro e wx5x12r13 ⟨v12, rfl, hs⟩
    have HD2 := Aside0.mk (hs.pick5 [3, 1, 4])
    have hnew : (wx5x12r13.heap[b]? = some (.cells #[.int .i64 5, .int .i64 op, .int .u64 base, .int .u64 off, .int .u64 v, .int .i64 at_, .int .i64 n, .slice A l.length c] 57 (0, 0)) ∧ (convert 39 9 v5).run Tryd.prog wx5x12r13 = .ok (.string (strOfNums ys)) wx5x12r13) ∧ (convert 39 9 v12).run Tryd.prog wx5x12r13 = .ok (.string (strOfNums ys)) wx5x12r13 := ⟨⟨(hs.pick5 [4]).blk, (hs.pick5 [2]).str⟩, hs.str⟩
    have himp : ∀ W : World, ((W.heap[b]? = some (.cells #[.int .i64 5, .int .i64 op, .int .u64 base, .int .u64 off, .int .u64 v, .int .i64 at_, .int .i64 n, .slice A l.length c] 57 (0, 0)) ∧ (convert 39 9 v5).run Tryd.prog W = .ok (.string (strOfNums ys)) W) ∧ (convert 39 9 v12).run Tryd.prog W = .ok (.string (strOfNums ys)) W) → (W.heap[b]? = some (.cells #[.int .i64 5, .int .i64 op, .int .u64 base, .int .u64 off, .int .u64 v, .int .i64 at_, .int .i64 n, .slice A l.length c] 57 (0, 0)) ∧ (convert 39 9 v5).run Tryd.prog W = .ok (.string (strOfNums ys)) W) := fun W h => h.1
    clear hs
    go_wp2_with fail
    refine hK.out _ _ (himp _ hnew) ?_
    clear hK K
    refine rg_norm (a' := ?_) ?_ ?_
    rotate_left
    · simp only [Act.put, List.setIfInBounds_toArray, List.set_cons_zero, List.set_cons_succ]
      rfl
    refine rg_imp himp ?_
    clear himp
    clear hHeld
    have hHeld := hnew
    clear hnew
    refine rg_take (i := 13) (N := some 96) (v := ?_) (a' := ?_) (bm 16 16383) rfl rfl (by kernel_rfl) (fun _ _ _ h => h) hHeld (Or.inl ⟨by rfl, ?_⟩) ?_ ?_
    rotate_left
    · intro w' hw'
      have hst := hw'.2
      go_simp
      with_reducible rfl
    rotate_left
    · simp only [Act.put, List.setIfInBounds_toArray, List.set_cons_zero, List.set_cons_succ]
      rfl
    refine rg_take (i := 14) (N := some 97) (v := ?_) (a' := ?_) (bm 16 32767) rfl rfl (by kernel_rfl) (fun _ _ _ h => h) hHeld (Or.inl ⟨by rfl, ?_⟩) ?_ ?_
    rotate_left
    · intro w' hw'
      go_simp
      with_reducible rfl
    rotate_left
    · simp only [Act.put, List.setIfInBounds_toArray, List.set_cons_zero, List.set_cons_succ]
      rfl
    refine rg_take (i := 15) (N := some 6) (v := ?_) (a' := ?_) (bm 16 65535) rfl rfl (by kernel_rfl) (fun _ _ _ h => h) hHeld (Or.inl ⟨by rfl, ?_⟩) ?_ ?_
    rotate_left
    · intro w' hw'
      go_simp
      with_reducible rfl
    rotate_left
    · simp only [Act.put, List.setIfInBounds_toArray, List.set_cons_zero, List.set_cons_succ]
      rfl
    refine rg_done (by kernel_rfl) ?_
    go_wp2
    go_ret
    exact ⟨by simp, HD2.out.pick3 [0, 1]⟩
  by_cases h6 : wh = 6
  · subst h6
    have e : m' = { m with b := (mLay m.b at_ l).getD m.b } := hm'.symm
    obtain ⟨r, hr⟩ : ∃ r, (mLay m.b at_ l).isSome = r := ⟨_, rfl⟩
    obtain ⟨b', hb''⟩ : ∃ b', (mLay m.b at_ l).getD m.b = b' := ⟨_, rfl⟩
    rw [hb''] at e
    subst e
    have HR := Aside0.mk hr
    have HB' := Aside0.mk hb''
    clear hm' hr hb''
    have HSD := Aside0.mk HS.out.drew
    have hbd : _ = some (Obj.cells #[.int .i64 6, .int .i64 op, .int .u64 base, .int .u64 off, .int .u64 v, .int .i64 at_, .int .i64 n, .slice A l.length c] 57 (0, 0)) := (HSD.out.pick3 [2]).blk
    have s0 := blk_cell ((HS.out.pick3 [2]).blk) 0
    go_enter Tryd.func24, Tryd.ntmps24
    go_wp2
    refine rg_startL (n := 14) (S := fun w' => w'.heap[b]? = some (.cells #[.int .i64 6, .int .i64 op, .int .u64 base, .int .u64 off, .int .u64 v, .int .i64 at_, .int .i64 n, .slice A l.length c] 57 (0, 0))) (bm 14 0) (by kernel_rfl) rfl (by kernel_rfl) (hbd) (fun wd hwd hHeld => ?_)
    refine rg_take (i := 0) (N := some 100) (v := ?_) (a' := ?_) (bm 14 1) rfl rfl (by kernel_rfl) (fun _ _ _ h => h) hHeld (Or.inl ⟨by rfl, ?_⟩) ?_ ?_
    rotate_left
    · intro w' hw'
      have s0 := blk_cell hw' 0
      have s5 := blk_cell hw' 5
      have s7 := blk_cell hw' 7
      go_simp
      with_reducible rfl
    rotate_left
    · simp only [Act.put, List.setIfInBounds_toArray, List.set_cons_zero, List.set_cons_succ]
      rfl
    refine rg_take (i := 1) (N := some 101) (v := ?_) (a' := ?_) (bm 14 3) rfl rfl (by kernel_rfl) (fun _ _ _ h => h) hHeld (Or.inl ⟨by rfl, ?_⟩) ?_ ?_
    rotate_left
    · intro w' hw'
      have s0 := blk_cell hw' 0
      have s5 := blk_cell hw' 5
      have s7 := blk_cell hw' 7
      go_simp
      with_reducible rfl
    rotate_left
    · simp only [Act.put, List.setIfInBounds_toArray, List.set_cons_zero, List.set_cons_succ]
      rfl
    refine rg_take (i := 2) (N := some 102) (v := ?_) (a' := ?_) (bm 14 7) rfl rfl (by kernel_rfl) (fun _ _ _ h => h) hHeld (Or.inl ⟨by rfl, ?_⟩) ?_ ?_
    rotate_left
    · intro w' hw'
      have s0 := blk_cell hw' 0
      have s5 := blk_cell hw' 5
      have s7 := blk_cell hw' 7
      go_simp
      with_reducible rfl
    rotate_left
    · simp only [Act.put, List.setIfInBounds_toArray, List.set_cons_zero, List.set_cons_succ]
      rfl
    refine rg_take (i := 3) (N := some 103) (v := ?_) (a' := ?_) (bm 14 15) rfl rfl (by kernel_rfl) (fun _ _ _ h => h) hHeld (Or.inl ⟨by rfl, ?_⟩) ?_ ?_
    rotate_left
    · intro w' hw'
      have s0 := blk_cell hw' 0
      have s5 := blk_cell hw' 5
      have s7 := blk_cell hw' 7
      go_simp
      with_reducible rfl
    rotate_left
    · simp only [Act.put, List.setIfInBounds_toArray, List.set_cons_zero, List.set_cons_succ]
      rfl
    refine rg_take (i := 4) (N := some 104) (v := ?_) (a' := ?_) (bm 14 31) rfl rfl (by kernel_rfl) (fun _ _ _ h => h) hHeld (Or.inl ⟨by rfl, ?_⟩) ?_ ?_
    rotate_left
    · intro w' hw'
      have s0 := blk_cell hw' 0
      have s5 := blk_cell hw' 5
      have s7 := blk_cell hw' 7
      go_simp
      with_reducible rfl
    rotate_left
    · simp only [Act.put, List.setIfInBounds_toArray, List.set_cons_zero, List.set_cons_succ]
      rfl
    refine rg_take (i := 6) (N := some 106) (v := ?_) (a' := ?_) (bm 14 95) rfl rfl (by kernel_rfl) (fun _ _ _ h => h) hHeld (Or.inl ⟨by rfl, ?_⟩) ?_ ?_
    rotate_left
    · intro w' hw'
      have s0 := blk_cell hw' 0
      have s5 := blk_cell hw' 5
      have s7 := blk_cell hw' 7
      go_simp
      with_reducible rfl
    rotate_left
    · simp only [Act.put, List.setIfInBounds_toArray, List.set_cons_zero, List.set_cons_succ]
      rfl
    refine rg_take (i := 7) (N := some 107) (v := ?_) (a' := ?_) (bm 14 223) rfl rfl (by kernel_rfl) (fun _ _ _ h => h) hHeld (Or.inl ⟨by rfl, ?_⟩) ?_ ?_
    rotate_left
    · intro w' hw'
      have s0 := blk_cell hw' 0
      have s5 := blk_cell hw' 5
      have s7 := blk_cell hw' 7
      go_simp
      with_reducible rfl
    rotate_left
    · simp only [Act.put, List.setIfInBounds_toArray, List.set_cons_zero, List.set_cons_succ]
      rfl
    refine rg_take (i := 8) (N := some 108) (v := ?_) (a' := ?_) (bm 14 479) rfl rfl (by kernel_rfl) (fun _ _ _ h => h) hHeld (Or.inl ⟨by rfl, ?_⟩) ?_ ?_
    rotate_left
    · intro w' hw'
      have s0 := blk_cell hw' 0
      have s5 := blk_cell hw' 5
      have s7 := blk_cell hw' 7
      go_simp
      with_reducible rfl
    rotate_left
    · simp only [Act.put, List.setIfInBounds_toArray, List.set_cons_zero, List.set_cons_succ]
      rfl
    refine rg_take (i := 9) (N := some 109) (v := ?_) (a' := ?_) (bm 14 991) rfl rfl (by kernel_rfl) (fun _ _ _ h => h) hHeld (Or.inl ⟨by rfl, ?_⟩) ?_ ?_
    rotate_left
    · intro w' hw'
      have s0 := blk_cell hw' 0
      have s5 := blk_cell hw' 5
      have s7 := blk_cell hw' 7
      go_simp
      with_reducible rfl
    rotate_left
    · simp only [Act.put, List.setIfInBounds_toArray, List.set_cons_zero, List.set_cons_succ]
      rfl
    refine rg_take (i := 10) (N := some 110) (v := ?_) (a' := ?_) (bm 14 2015) rfl rfl (by kernel_rfl) (fun _ _ _ h => h) hHeld (Or.inl ⟨by rfl, ?_⟩) ?_ ?_
    rotate_left
    · intro w' hw'
      have s0 := blk_cell hw' 0
      have s5 := blk_cell hw' 5
      have s7 := blk_cell hw' 7
      go_simp
      with_reducible rfl
    rotate_left
    · simp only [Act.put, List.setIfInBounds_toArray, List.set_cons_zero, List.set_cons_succ]
      rfl
    refine rg_ready [5] (by kernel_rfl) (by simp) ?_
    refine rg_one (i := 5) (N := some 105) (bm 14 2047) rfl rfl (by kernel_rfl) (fun K hK => ?_) rg_nil
    have HD := Aside0.mk (hwd.out ▸ HSD.out)
    go_simp
    go_at_call 15
    with_reducible refine (memLayK HD.out HGD.out HAT.out HC.out HLEN.out HR.out HB'.out).mono ?_
    rintro e wx5r15 ⟨rfl, hs⟩
    have HD1 := Aside0.mk (hs.pick3 [1, 0, 2])
    have hnew := (hs.pick3 [2]).blk
    clear hs
    go_wp2_with fail
    refine hK.out _ _ hnew ?_
    clear hK K
    refine rg_norm (a' := ?_) ?_ ?_
    rotate_left
    · simp only [Act.put, List.setIfInBounds_toArray, List.set_cons_zero, List.set_cons_succ]
      rfl
    clear hHeld
    have hHeld := hnew
    clear hnew
    refine rg_ready [11] (by kernel_rfl) (by simp) ?_
    refine rg_one (i := 11) (N := some 111) (bm 14 4095) rfl rfl (by kernel_rfl) (fun K hK => ?_) rg_nil
    go_simp
    go_at_call 37
    with_reducible refine (refLayK HD1.out HGD.out HAT.out HC.out HR.out HB'.out).mono ?_
    rintro e wx5x11r15 ⟨rfl, hs⟩
    have HD2 := Aside0.mk (hs.pick3 [1, 0, 2])
    have hnew := (hs.pick3 [2]).blk
    clear hs
    go_wp2_with fail
    refine hK.out _ _ hnew ?_
    clear hK K
    refine rg_norm (a' := ?_) ?_ ?_
    rotate_left
    · simp only [Act.put, List.setIfInBounds_toArray, List.set_cons_zero, List.set_cons_succ]
      rfl
    clear hHeld
    have hHeld := hnew
    clear hnew
    refine rg_take (i := 12) (N := some 112) (v := ?_) (a' := ?_) (bm 14 8191) rfl rfl (by kernel_rfl) (fun _ _ _ h => h) hHeld (Or.inl ⟨by rfl, ?_⟩) ?_ ?_
    rotate_left
    · intro w' hw'
      have s0 := blk_cell hw' 0
      have s5 := blk_cell hw' 5
      have s7 := blk_cell hw' 7
      go_simp
      with_reducible rfl
    rotate_left
    · simp only [Act.put, List.setIfInBounds_toArray, List.set_cons_zero, List.set_cons_succ]
      rfl
    refine rg_take (i := 13) (N := some 6) (v := ?_) (a' := ?_) (bm 14 16383) rfl rfl (by kernel_rfl) (fun _ _ _ h => h) hHeld (Or.inl ⟨by rfl, ?_⟩) ?_ ?_
    rotate_left
    · intro w' hw'
      have s0 := blk_cell hw' 0
      have s5 := blk_cell hw' 5
      have s7 := blk_cell hw' 7
      go_simp
      with_reducible rfl
    rotate_left
    · simp only [Act.put, List.setIfInBounds_toArray, List.set_cons_zero, List.set_cons_succ]
      rfl
    refine rg_done (by kernel_rfl) ?_
    go_wp2
    go_ret
    exact ⟨by simp, HD2.out.pick3 [0, 1]⟩
  have e : m' = m := hm'.symm.trans (by simp [mDo, h2, h3, h4, h6])
  subst e
  obtain ⟨r, hr⟩ : ∃ r, mFits m'.b.length base off n = r := ⟨_, rfl⟩
  have HR := Aside0.mk hr
  have b0 : (wh == 0) = false := beq_eq_false_iff_ne.2 h0
  have b1 : (wh == 1) = false := beq_eq_false_iff_ne.2 h1
  have b2 : (wh == 2) = false := beq_eq_false_iff_ne.2 h2
  have b3 : (wh == 3) = false := beq_eq_false_iff_ne.2 h3
  have b4 : (wh == 4) = false := beq_eq_false_iff_ne.2 h4
  have b5 : (wh == 5) = false := beq_eq_false_iff_ne.2 h5
  have b6 : (wh == 6) = false := beq_eq_false_iff_ne.2 h6
  clear hm' hr h0 h1 h2 h3 h4 h5 h6
  have HSD := Aside0.mk HS.out.drew
  have hbd : _ = some (Obj.cells #[.int .i64 wh, .int .i64 op, .int .u64 base, .int .u64 off, .int .u64 v, .int .i64 at_, .int .i64 n, .slice A l.length c] 57 (0, 0)) := (HSD.out.pick3 [2]).blk
  have s0 := blk_cell ((HS.out.pick3 [2]).blk) 0
  go_enter Tryd.func24, Tryd.ntmps24
  go_wp2
  refine rg_startL (n := 18) (S := fun w' => w'.heap[b]? = some (.cells #[.int .i64 wh, .int .i64 op, .int .u64 base, .int .u64 off, .int .u64 v, .int .i64 at_, .int .i64 n, .slice A l.length c] 57 (0, 0))) (bm 18 0) (by kernel_rfl) rfl (by kernel_rfl) (hbd) (fun wd hwd hHeld => ?_)
  refine rg_take (i := 0) (N := some 113) (v := ?_) (a' := ?_) (bm 18 1) rfl rfl (by kernel_rfl) (fun _ _ _ h => h) hHeld (Or.inl ⟨by rfl, ?_⟩) ?_ ?_
  rotate_left
  · intro w' hw'
    have s0 := blk_cell hw' 0
    have s2 := blk_cell hw' 2
    have s3 := blk_cell hw' 3
    have s6 := blk_cell hw' 6
    go_simp
    with_reducible rfl
  rotate_left
  · simp only [Act.put, List.setIfInBounds_toArray, List.set_cons_zero, List.set_cons_succ]
    rfl
  refine rg_take (i := 1) (N := some 114) (v := ?_) (a' := ?_) (bm 18 3) rfl rfl (by kernel_rfl) (fun _ _ _ h => h) hHeld (Or.inl ⟨by rfl, ?_⟩) ?_ ?_
  rotate_left
  · intro w' hw'
    have s0 := blk_cell hw' 0
    have s2 := blk_cell hw' 2
    have s3 := blk_cell hw' 3
    have s6 := blk_cell hw' 6
    go_simp
    with_reducible rfl
  rotate_left
  · simp only [Act.put, List.setIfInBounds_toArray, List.set_cons_zero, List.set_cons_succ]
    rfl
  refine rg_take (i := 2) (N := some 115) (v := ?_) (a' := ?_) (bm 18 7) rfl rfl (by kernel_rfl) (fun _ _ _ h => h) hHeld (Or.inl ⟨by rfl, ?_⟩) ?_ ?_
  rotate_left
  · intro w' hw'
    have s0 := blk_cell hw' 0
    have s2 := blk_cell hw' 2
    have s3 := blk_cell hw' 3
    have s6 := blk_cell hw' 6
    go_simp
    with_reducible rfl
  rotate_left
  · simp only [Act.put, List.setIfInBounds_toArray, List.set_cons_zero, List.set_cons_succ]
    rfl
  refine rg_take (i := 3) (N := some 116) (v := ?_) (a' := ?_) (bm 18 15) rfl rfl (by kernel_rfl) (fun _ _ _ h => h) hHeld (Or.inl ⟨by rfl, ?_⟩) ?_ ?_
  rotate_left
  · intro w' hw'
    have s0 := blk_cell hw' 0
    have s2 := blk_cell hw' 2
    have s3 := blk_cell hw' 3
    have s6 := blk_cell hw' 6
    go_simp
    with_reducible rfl
  rotate_left
  · simp only [Act.put, List.setIfInBounds_toArray, List.set_cons_zero, List.set_cons_succ]
    rfl
  refine rg_take (i := 4) (N := some 117) (v := ?_) (a' := ?_) (bm 18 31) rfl rfl (by kernel_rfl) (fun _ _ _ h => h) hHeld (Or.inl ⟨by rfl, ?_⟩) ?_ ?_
  rotate_left
  · intro w' hw'
    have s0 := blk_cell hw' 0
    have s2 := blk_cell hw' 2
    have s3 := blk_cell hw' 3
    have s6 := blk_cell hw' 6
    go_simp
    with_reducible rfl
  rotate_left
  · simp only [Act.put, List.setIfInBounds_toArray, List.set_cons_zero, List.set_cons_succ]
    rfl
  refine rg_take (i := 5) (N := some 118) (v := ?_) (a' := ?_) (bm 18 63) rfl rfl (by kernel_rfl) (fun _ _ _ h => h) hHeld (Or.inl ⟨by rfl, ?_⟩) ?_ ?_
  rotate_left
  · intro w' hw'
    have s0 := blk_cell hw' 0
    have s2 := blk_cell hw' 2
    have s3 := blk_cell hw' 3
    have s6 := blk_cell hw' 6
    go_simp
    with_reducible rfl
  rotate_left
  · simp only [Act.put, List.setIfInBounds_toArray, List.set_cons_zero, List.set_cons_succ]
    rfl
  refine rg_take (i := 6) (N := some 119) (v := ?_) (a' := ?_) (bm 18 127) rfl rfl (by kernel_rfl) (fun _ _ _ h => h) hHeld (Or.inl ⟨by rfl, ?_⟩) ?_ ?_
  rotate_left
  · intro w' hw'
    have s0 := blk_cell hw' 0
    have s2 := blk_cell hw' 2
    have s3 := blk_cell hw' 3
    have s6 := blk_cell hw' 6
    go_simp
    with_reducible rfl
  rotate_left
  · simp only [Act.put, List.setIfInBounds_toArray, List.set_cons_zero, List.set_cons_succ]
    rfl
  refine rg_take (i := 8) (N := some 121) (v := ?_) (a' := ?_) (bm 18 383) rfl rfl (by kernel_rfl) (fun _ _ _ h => h) hHeld (Or.inl ⟨by rfl, ?_⟩) ?_ ?_
  rotate_left
  · intro w' hw'
    have s0 := blk_cell hw' 0
    have s2 := blk_cell hw' 2
    have s3 := blk_cell hw' 3
    have s6 := blk_cell hw' 6
    go_simp
    with_reducible rfl
  rotate_left
  · simp only [Act.put, List.setIfInBounds_toArray, List.set_cons_zero, List.set_cons_succ]
    rfl
  refine rg_take (i := 9) (N := some 122) (v := ?_) (a' := ?_) (bm 18 895) rfl rfl (by kernel_rfl) (fun _ _ _ h => h) hHeld (Or.inl ⟨by rfl, ?_⟩) ?_ ?_
  rotate_left
  · intro w' hw'
    have s0 := blk_cell hw' 0
    have s2 := blk_cell hw' 2
    have s3 := blk_cell hw' 3
    have s6 := blk_cell hw' 6
    go_simp
    with_reducible rfl
  rotate_left
  · simp only [Act.put, List.setIfInBounds_toArray, List.set_cons_zero, List.set_cons_succ]
    rfl
  refine rg_take (i := 10) (N := some 123) (v := ?_) (a' := ?_) (bm 18 1919) rfl rfl (by kernel_rfl) (fun _ _ _ h => h) hHeld (Or.inl ⟨by rfl, ?_⟩) ?_ ?_
  rotate_left
  · intro w' hw'
    have s0 := blk_cell hw' 0
    have s2 := blk_cell hw' 2
    have s3 := blk_cell hw' 3
    have s6 := blk_cell hw' 6
    go_simp
    with_reducible rfl
  rotate_left
  · simp only [Act.put, List.setIfInBounds_toArray, List.set_cons_zero, List.set_cons_succ]
    rfl
  refine rg_take (i := 11) (N := some 124) (v := ?_) (a' := ?_) (bm 18 3967) rfl rfl (by kernel_rfl) (fun _ _ _ h => h) hHeld (Or.inl ⟨by rfl, ?_⟩) ?_ ?_
  rotate_left
  · intro w' hw'
    have s0 := blk_cell hw' 0
    have s2 := blk_cell hw' 2
    have s3 := blk_cell hw' 3
    have s6 := blk_cell hw' 6
    go_simp
    with_reducible rfl
  rotate_left
  · simp only [Act.put, List.setIfInBounds_toArray, List.set_cons_zero, List.set_cons_succ]
    rfl
  refine rg_take (i := 12) (N := some 125) (v := ?_) (a' := ?_) (bm 18 8063) rfl rfl (by kernel_rfl) (fun _ _ _ h => h) hHeld (Or.inl ⟨by rfl, ?_⟩) ?_ ?_
  rotate_left
  · intro w' hw'
    have s0 := blk_cell hw' 0
    have s2 := blk_cell hw' 2
    have s3 := blk_cell hw' 3
    have s6 := blk_cell hw' 6
    go_simp
    with_reducible rfl
  rotate_left
  · simp only [Act.put, List.setIfInBounds_toArray, List.set_cons_zero, List.set_cons_succ]
    rfl
  refine rg_take (i := 13) (N := some 126) (v := ?_) (a' := ?_) (bm 18 16255) rfl rfl (by kernel_rfl) (fun _ _ _ h => h) hHeld (Or.inl ⟨by rfl, ?_⟩) ?_ ?_
  rotate_left
  · intro w' hw'
    have s0 := blk_cell hw' 0
    have s2 := blk_cell hw' 2
    have s3 := blk_cell hw' 3
    have s6 := blk_cell hw' 6
    go_simp
    with_reducible rfl
  rotate_left
  · simp only [Act.put, List.setIfInBounds_toArray, List.set_cons_zero, List.set_cons_succ]
    rfl
  refine rg_take (i := 14) (N := some 127) (v := ?_) (a' := ?_) (bm 18 32639) rfl rfl (by kernel_rfl) (fun _ _ _ h => h) hHeld (Or.inl ⟨by rfl, ?_⟩) ?_ ?_
  rotate_left
  · intro w' hw'
    have s0 := blk_cell hw' 0
    have s2 := blk_cell hw' 2
    have s3 := blk_cell hw' 3
    have s6 := blk_cell hw' 6
    go_simp
    with_reducible rfl
  rotate_left
  · simp only [Act.put, List.setIfInBounds_toArray, List.set_cons_zero, List.set_cons_succ]
    rfl
  refine rg_ready [7] (by kernel_rfl) (by simp) ?_
  refine rg_one (i := 7) (N := some 120) (bm 18 32767) rfl rfl (by kernel_rfl) (fun K hK => ?_) rg_nil
  have HD := Aside0.mk (hwd.out ▸ HSD.out)
  go_simp
  go_at_call 21
  with_reducible refine (memFitsK HD.out HGD.out HBA.out HOF.out HN.out HR.out).mono ?_
  rintro e wx7r16 ⟨rfl, hs⟩
  have HD1 := Aside0.mk (hs.pick3 [1, 0, 2])
  have hnew := (hs.pick3 [2]).blk
  clear hs
  go_wp2_with fail
  refine hK.out _ _ hnew ?_
  clear hK K
  refine rg_norm (a' := ?_) ?_ ?_
  rotate_left
  · simp only [Act.put, List.setIfInBounds_toArray, List.set_cons_zero, List.set_cons_succ]
    rfl
  clear hHeld
  have hHeld := hnew
  clear hnew
  refine rg_ready [15] (by kernel_rfl) (by simp) ?_
  refine rg_one (i := 15) (N := some 128) (bm 18 65535) rfl rfl (by kernel_rfl) (fun K hK => ?_) rg_nil
  go_simp
  go_at_call 38
  with_reducible refine (refFitsK HD1.out HGD.out HBA.out HOF.out HN.out HR.out).mono ?_
  rintro e wx7x15r16 ⟨rfl, hs⟩
  have HD2 := Aside0.mk (hs.pick3 [1, 0, 2])
  have hnew := (hs.pick3 [2]).blk
  clear hs
  go_wp2_with fail
  refine hK.out _ _ hnew ?_
  clear hK K
  refine rg_norm (a' := ?_) ?_ ?_
  rotate_left
  · simp only [Act.put, List.setIfInBounds_toArray, List.set_cons_zero, List.set_cons_succ]
    rfl
  clear hHeld
  have hHeld := hnew
  clear hnew
  refine rg_take (i := 16) (N := some 129) (v := ?_) (a' := ?_) (bm 18 131071) rfl rfl (by kernel_rfl) (fun _ _ _ h => h) hHeld (Or.inl ⟨by rfl, ?_⟩) ?_ ?_
  rotate_left
  · intro w' hw'
    have s0 := blk_cell hw' 0
    have s2 := blk_cell hw' 2
    have s3 := blk_cell hw' 3
    have s6 := blk_cell hw' 6
    go_simp
    with_reducible rfl
  rotate_left
  · simp only [Act.put, List.setIfInBounds_toArray, List.set_cons_zero, List.set_cons_succ]
    rfl
  refine rg_take (i := 17) (N := some 6) (v := ?_) (a' := ?_) (bm 18 262143) rfl rfl (by kernel_rfl) (fun _ _ _ h => h) hHeld (Or.inl ⟨by rfl, ?_⟩) ?_ ?_
  rotate_left
  · intro w' hw'
    have s0 := blk_cell hw' 0
    have s2 := blk_cell hw' 2
    have s3 := blk_cell hw' 3
    have s6 := blk_cell hw' 6
    go_simp
    with_reducible rfl
  rotate_left
  · simp only [Act.put, List.setIfInBounds_toArray, List.set_cons_zero, List.set_cons_succ]
    rfl
  refine rg_done (by kernel_rfl) ?_
  go_wp2
  go_ret
  exact ⟨by simp, HD2.out.pick3 [0, 1]⟩
end Go.Proofs.YtffoolhfjomhhaaDoor.G
