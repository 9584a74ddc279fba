/- Package stack: Push, Open. -/
import Derived.Test.YtagblobimoedcaaStkI
namespace Go.Proofs.Ytagblobimoedcaa.G
open Go.RowKit Go.Proofs.YtagblobimoedcaaW.PrintWords Go.Proofs.YtagblobimoedcaaW.PrintLast Go.Proofs.YtagblobimoedcaaW.PrintMore
set_option linter.unusedVariables false
set_option linter.unusedSimpArgs false
section
variable {P : Program} {ops : Array Oper} {o : Oper} {a : Act} {Q : Exit → Act → World → Prop} {Kc : Act → World → Prop} {α : Type} {d : Kd α}
/-- append(v, ys...) in a region that draws, v the head's row. -/
theorem SB.appRowsStep {w0 W : World} {L : List As} {e : Nat} {v : Value} {xs ys : List α} {A : Option Addr} {m c : Nat} (HS : SB w0 W (Row d e v xs :: L)) (hw : Region.wanted o (yielded ops a.tmps) = true) (s x : Operand) (t : TypeId) (z : Value) (bytes : Nat)
    (ho : o.op = .call { callee := .builtin .append, args := #[s, x], argTypes := #[t, t] })
    (ht : P.underlying t = some (.slice e)) (hinfo : (P.info? e).map (fun i => (i.zero, i.size, i.bytes)) = some (some z, d.sz, bytes)) (hz : z.cells.size = d.sz) (hs0 : 0 < d.sz) (hb0 : 0 < bytes)
    (hs : a.eval s = v) (hx : a.eval x = .slice A m c) {Rr : α → List Value → Prop} (hKM : ∀ x cs, Rr x cs → d.M W 0 (fun _ => False) x cs)
    (HR : ReadsRow Rr d.sz W A m ys) (hl : (xs.length + m) * bytes ≤ 140737488355328)
    (h : ∀ v1 w1, SB w0 w1 (Row d e v1 (xs ++ ys) :: L) → Kc (a.put o.dst v1) w1) :
    if Region.wanted o (yielded ops a.tmps) = true then Oper.wp P o a W Kc Q else Kc (a.put o.dst undef) W := by
  obtain ⟨F, hF, hge, K⟩ := HS.frame
  refine Kd.R_append_rows_step d (w0 := W) 0 hw s x t e z bytes ho ht hinfo hz hs0 hb0 v xs ys A m c (fun k => F k ∨ W.heap.size ≤ k) (fun _ => False) hs hx (Kd.R_mono hF.1 (fun k hk => .inl hk)) HR hKM (fun _ h => h.elim) (fun _ h => .inr h) (Below.refl 0 W) (Nat.zero_le _) hl ?_
  intro v1 w1 hR _ hg _
  exact h v1 w1 (row_grown hF K hR hg)
end
def sPush (v : List Int) (cs : List S31) (l : List Int) : List Int × List S31 × Int := if kSane v cs = true ∧ l.all stTy_okT = true then (v ++ l, cs, 0) else ([], [], 1)
theorem stkTypes {w : World} {Al : Option Addr} {cl : Nat} {l : List Int} (hl : Kd.C (Kd.int .u8) w Al l.length l) (hc : l.length ≤ cl) : Calls Try.prog 36 #[.slice Al l.length cl] w fun e w' => e = .returned (.bool (l.all stTy_okT)) ∧ Below w.heap.size w w' := stack_types.calls Al cl l _ w hl hc rfl
theorem stkLeft {w : World} {Al : Option Addr} {cl : Nat} {l : List Int} (hl : Kd.C (Kd.int .u8) w Al l.length l) (hc : l.length ≤ cl) : Calls Try.prog 35 #[.slice Al l.length cl] w fun e w' => e = .returned (.bool (kLeft l)) ∧ Below w.heap.size w w' :=
  (stack_left.calls Al cl l _ w hl hc (left_f l)).mono (fun e w' h => ⟨h.1, by first | exact h.2 | exact drawn_below h.2⟩)
set_option maxHeartbeats 8000000 in
set_option maxRecDepth 100000 in
theorem stkPush {w : World} {A0 A1 Al : Option Addr} {c0 c1 cl : Nat} {v l : List Int} {cs : List S31} (h : HoldS w A0 c0 A1 c1 v cs) (hl : Kd.C (Kd.int .u8) w Al l.length l) (hlc : l.length ≤ cl) (hm : modest v cs) (hlm : l.length ≤ 400000000) :
    Calls Try.prog 13 #[.agg #[.slice A0 v.length c0, .slice A1 cs.length c1], .slice Al l.length cl] w fun e w' => ∃ B0 d0 B1 d1, e = .returned (.tuple #[.agg #[.slice B0 (sPush v cs l).1.length d0, .slice B1 (sPush v cs l).2.1.length d1], .int .i64 (sPush v cs l).2.2]) ∧
      HoldS w' B0 d0 B1 d1 (sPush v cs l).1 (sPush v cs l).2.1 ∧ Below w.heap.size w w' := by
  have HH := Aside0.mk h
  have HL := Aside0.mk hl
  have HW := Aside0.mk ((((SB.start w).box #[.slice A0 v.length c0, .slice A1 cs.length c1] 28)).box #[.slice none 0 0, .slice none 0 0] 28)
  rw [World.size_alloc] at HW
  have HSA := Aside0.mk (fun (W : World) (hW : Below w.heap.size w W) => stkSane (h.below hW) hm)
  have HTY := Aside0.mk (fun (W : World) (hW : Below w.heap.size w W) => stkTypes (Kd.C_below hl hW) hlc)
  have hml := hm.1
  have hmc := hm.2
  obtain ⟨b1, hb1⟩ : ∃ b, kSane v cs = b := ⟨_, rfl⟩
  obtain ⟨b2, hb2⟩ : ∃ b, l.all stTy_okT = b := ⟨_, rfl⟩
  have hr : sPush v cs l = if b1 = true ∧ b2 = true then (v ++ l, cs, 0) else ([], [], 1) := by unfold sPush; rw [hb1, hb2]
  rw [hr]
  rw [hb1] at HSA
  rw [hb2] at HTY
  clear h hl hr hb1 hb2
  cases b1 with
  | false =>
    simp only [Bool.false_eq_true, false_and, if_false]
    go_enter Try.func13, Try.ntmps13
    go_wp2_with (go_at_call 12; refine (HSA.out _ HW.out.bel).mono ?_; rintro e w1 ⟨rfl, hb⟩; have HW1 := Aside0.mk (HW.out.below hb); clear hb; have x2 := SB.boxAt (w.heap.size + 1) 28 HW1.out; have z0 := blk_cell x2 0; have z1 := blk_cell x2 1; have y0 := blk_fro x2 0; have y1 := blk_fro x2 1; clear x2)
    exact bodyPost_ret (v := .tuple #[.agg #[.slice none 0 0, .slice none 0 0], .int .i64 1]) (by simp [results, Try.results13, go_sem, *]) rfl ⟨none, 0, none, 0, rfl, holdNil _, ((HW1.out.set1 0 (.slice none 0 0)).set1 1 (.slice none 0 0)).bel⟩
  | true =>
    cases b2 with
    | false =>
      simp only [Bool.false_eq_true, and_false, if_false]
      go_enter Try.func13, Try.ntmps13
      go_wp2_with (first
        | (go_at_call 12; refine (HSA.out _ HW.out.bel).mono ?_; rintro e w0 ⟨rfl, hb⟩; have HW0 := Aside0.mk (HW.out.below hb); clear hb)
        | (go_at_call 36; refine (HTY.out _ HW0.out.bel).mono ?_; rintro e w1 ⟨rfl, hb⟩; have HW1 := Aside0.mk (HW0.out.below hb); clear hb; have x2 := SB.boxAt (w.heap.size + 1) 28 HW1.out; have z0 := blk_cell x2 0; have z1 := blk_cell x2 1; have y0 := blk_fro x2 0; have y1 := blk_fro x2 1; clear x2))
      exact bodyPost_ret (v := .tuple #[.agg #[.slice none 0 0, .slice none 0 0], .int .i64 1]) (by simp [results, Try.results13, go_sem, *]) rfl ⟨none, 0, none, 0, rfl, holdNil _, ((HW1.out.set1 0 (.slice none 0 0)).set1 1 (.slice none 0 0)).bel⟩
    | true =>
      simp only [and_self, if_true]
      obtain ⟨vl, hvl⟩ : ∃ vl, v ++ l = vl := ⟨_, rfl⟩
      rw [hvl]
      have HVL := Aside0.mk hvl
      clear hvl
      go_enter Try.func13, Try.ntmps13
      go_wp2_with (first
        | (go_at_call 12; refine (HSA.out _ HW.out.bel).mono ?_; rintro e w0 ⟨rfl, hb⟩; have HW0 := Aside0.mk (HW.out.below hb); clear hb)
        | (go_at_call 36; refine (HTY.out _ HW0.out.bel).mono ?_; rintro e w1 ⟨rfl, hb⟩; have HW1 := Aside0.mk (HW0.out.below hb); clear hb))
      have hW1 : SB w w1.drew [BoxO (w.heap.size + 1) 28 2 none, Box w.heap.size #[.slice A0 v.length c0, .slice A1 cs.length c1] 28] := (HW1.out.drew).boxHide 2
      refine rg_startL (n := 11) (S := fun w' => SB w w' [BoxO (w.heap.size + 1) 28 2 none, Box w.heap.size #[.slice A0 v.length c0, .slice A1 cs.length c1] 28]) (bm 11 0) (by kernel_rfl) rfl (by kernel_rfl) (hW1) (fun wd hwd hHeld => ?_)
      refine rg_take (i := 0) (N := some 15) (v := ?_) (a' := ?_) (bm 11 1) rfl rfl (by kernel_rfl) (fun _ _ _ h => h) hHeld (Or.inl ⟨by rfl, ?_⟩) ?_ ?_
      rotate_left
      · intro w' hw'
        have hbx := SB.boxAt w.heap.size 28 hw'
        have s0 := blk_cell hbx 0
        have s1 := blk_cell hbx 1
        go_simp
        with_reducible rfl
      rotate_left
      · simp only [Act.put, List.setIfInBounds_toArray, List.set_cons_zero, List.set_cons_succ]
        rfl
      refine rg_take (i := 1) (N := some 16) (v := ?_) (a' := ?_) (bm 11 3) rfl rfl (by kernel_rfl) (fun _ _ _ h => h) hHeld (Or.inl ⟨by rfl, ?_⟩) ?_ ?_
      rotate_left
      · intro w' hw'
        have hbx := SB.boxAt w.heap.size 28 hw'
        have s0 := blk_cell hbx 0
        have s1 := blk_cell hbx 1
        go_simp
        with_reducible rfl
      rotate_left
      · simp only [Act.put, List.setIfInBounds_toArray, List.set_cons_zero, List.set_cons_succ]
        rfl
      refine rg_take (i := 2) (N := some 17) (v := ?_) (a' := ?_) (bm 11 7) rfl rfl (by kernel_rfl) (fun _ _ _ h => h) hHeld (Or.inl ⟨by rfl, ?_⟩) ?_ ?_
      rotate_left
      · intro w' hw'
        have hbx := SB.boxAt w.heap.size 28 hw'
        have s0 := blk_cell hbx 0
        have s1 := blk_cell hbx 1
        go_simp
        with_reducible rfl
      rotate_left
      · simp only [Act.put, List.setIfInBounds_toArray, List.set_cons_zero, List.set_cons_succ]
        rfl
      refine rg_take (i := 5) (N := some 20) (v := ?_) (a' := ?_) (bm 11 39) rfl rfl (by kernel_rfl) (fun _ _ _ h => h) hHeld (Or.inl ⟨by rfl, ?_⟩) ?_ ?_
      rotate_left
      · intro w' hw'
        have hbx := SB.boxAt w.heap.size 28 hw'
        have s0 := blk_cell hbx 0
        have s1 := blk_cell hbx 1
        go_simp
        with_reducible rfl
      rotate_left
      · simp only [Act.put, List.setIfInBounds_toArray, List.set_cons_zero, List.set_cons_succ]
        rfl
      refine rg_take (i := 6) (N := some 21) (v := ?_) (a' := ?_) (bm 11 103) rfl rfl (by kernel_rfl) (fun _ _ _ h => h) hHeld (Or.inl ⟨by rfl, ?_⟩) ?_ ?_
      rotate_left
      · intro w' hw'
        have hbx := SB.boxAt w.heap.size 28 hw'
        have s0 := blk_cell hbx 0
        have s1 := blk_cell hbx 1
        go_simp
        with_reducible rfl
      rotate_left
      · simp only [Act.put, List.setIfInBounds_toArray, List.set_cons_zero, List.set_cons_succ]
        rfl
      refine rg_ready [3] (by kernel_rfl) (by simp) ?_
      refine rg_one (i := 3) (N := some 18) (bm 11 111) rfl rfl (by kernel_rfl) (fun K hK => ?_) rg_nil
      refine valueL_ (w1 := ?_) (v := ?_) (by rfl) rfl ?_ ?_
      rotate_left 2
      · go_simp
        constructor
        · rfl
        · rfl
      intro wx3r3 hwwx3r3
      obtain ⟨pl, hpl, hnew⟩ := hHeld.boxE #[.slice A0 v.length c0, .slice Al l.length cl] 25
      replace hnew : SB w wx3r3 _ := hwwx3r3 ▸ hnew
      clear hwwx3r3
      rw [← hpl]
      clear hpl
      refine hK.out _ _ hnew.drop ?_
      clear hK K
      refine rg_norm (a' := ?_) ?_ ?_
      rotate_left
      · simp only [Act.put, List.setIfInBounds_toArray, List.set_cons_zero, List.set_cons_succ]
        rfl
      refine rg_sb hnew ?_
      clear hHeld
      have hHeld := hnew
      clear hnew
      refine rg_ready [4] (by kernel_rfl) (by simp) ?_
      refine rg_one (i := 4) (N := some 19) (bm 11 127) rfl rfl (by kernel_rfl) (fun K hK => ?_) rg_nil
      go_simp
      go_at_call 37
      have hbp := SB.boxAt pl 25 hHeld
      with_reducible refine (concat2 pl A0 Al c0 cl v l _ hbp (Kd.C_below HH.out.hv hHeld.bel) (Kd.C_below HL.out hHeld.bel) (by omega) (by omega)).mono ?_
      clear hbp
      rintro e wx3x4r3 ⟨v1, rfl, hr, hb⟩
      rw [HVL.out] at hr
      obtain ⟨Av, cv, rfl⟩ := Kd.R_slice hr
      have hnew := hHeld.row hb hr
      clear hr hb
      go_wp2_with fail
      refine hK.out _ _ hnew.drop ?_
      clear hK K
      refine rg_norm (a' := ?_) ?_ ?_
      rotate_left
      · simp only [Act.put, List.setIfInBounds_toArray, List.set_cons_zero, List.set_cons_succ]
        rfl
      refine rg_sb hnew ?_
      clear hHeld
      have hHeld := hnew
      clear hnew
      refine rg_ready [7] (by kernel_rfl) (by simp) ?_
      refine rg_one (i := 7) (N := some 22) (bm 11 255) rfl rfl (by kernel_rfl) (fun K hK => ?_) rg_nil
      go_simp
      go_at_call 38
      with_reducible refine (cloneC w A1 c1 cs _ (Kd.C_below (kAt_of HH.out.hc) hHeld.bel) HH.out.lc (by omega)).mono ?_
      rintro e wx3x4x7r3 ⟨v2, rfl, hr, hb⟩
      obtain ⟨Ac, cc, rfl⟩ := Kd.R_slice hr
      have hnew := hHeld.row hb hr
      clear hr hb
      go_wp2_with fail
      refine hK.out _ _ hnew.drop ?_
      clear hK K
      refine rg_norm (a' := ?_) ?_ ?_
      rotate_left
      · simp only [Act.put, List.setIfInBounds_toArray, List.set_cons_zero, List.set_cons_succ]
        rfl
      refine rg_sb hnew ?_
      clear hHeld
      have hHeld := hnew
      clear hnew
      refine rg_take (i := 8) (N := some 23) (v := ?_) (a' := ?_) (bm 11 511) rfl rfl (by kernel_rfl) (fun _ _ _ h => h) hHeld (Or.inl ⟨by rfl, ?_⟩) ?_ ?_
      rotate_left
      · intro w' hw'
        have hbx := SB.boxAt w.heap.size 28 hw'
        have s0 := blk_cell hbx 0
        have s1 := blk_cell hbx 1
        go_simp
        with_reducible rfl
      rotate_left
      · simp only [Act.put, List.setIfInBounds_toArray, List.set_cons_zero, List.set_cons_succ]
        rfl
      refine rg_ready [9] (by kernel_rfl) (by simp) ?_
      refine rg_one (i := 9) (N := none) (bm 11 1023) rfl rfl (by kernel_rfl) (fun K hK => ?_) rg_nil
      obtain ⟨x0, x1, s0, s1, y0, y1, h2, hnew⟩ := SB.write2 (w.heap.size + 1) 28 hHeld (.slice Av vl.length cv) (.slice Ac cs.length cc)
      have HZ := Aside0.mk h2
      clear h2
      go_simp
      refine hK.out undef _ hnew ?_
      clear hK K
      refine rg_norm (a' := ?_) ?_ ?_
      rotate_left
      · simp only [Act.put, List.setIfInBounds_toArray, List.set_cons_zero, List.set_cons_succ]
        rfl
      clear hHeld
      have hHeld := hnew
      clear hnew
      refine rg_take (i := 10) (N := some 5) (v := ?_) (a' := ?_) (bm 11 2047) rfl rfl (by kernel_rfl) (fun _ _ _ h => h) hHeld (Or.inl ⟨by rfl, ?_⟩) ?_ ?_
      rotate_left
      · intro w' hw'
        have hbx := SB.boxAt w.heap.size 28 hw'
        have s0 := blk_cell hbx 0
        have s1 := blk_cell hbx 1
        go_simp
        with_reducible rfl
      rotate_left
      · simp only [Act.put, List.setIfInBounds_toArray, List.set_cons_zero, List.set_cons_succ]
        rfl
      refine rg_done (by kernel_rfl) ?_
      have x9 := SB.boxOAt (w.heap.size + 1) 28 2 HZ.out
      have f0 := blk_cell x9 0
      have f1 := blk_cell x9 1
      go_wp2
      obtain ⟨hfin, _, _⟩ := holdOf (HZ.out.pick [0, 1])
      exact bodyPost_ret (v := .tuple #[.agg #[.slice Av vl.length cv, .slice Ac cs.length cc], .int .i64 0]) (by simp [results, Try.results13, go_sem, f0, f1]) rfl ⟨Av, cv, Ac, cc, rfl, hfin, HZ.out.bel⟩
/-- Elements that were there, and one that leads to a row that is made. -/
def kX (W : World) (Ae : Option Addr) (ce : Nat) (l : List Int) : Kd S31 where
  sz := 4
  E := []
  K _ x cs := k31.K W x cs ∨ (x.f1 = l ∧ l.length ≤ ce ∧ cs = [.int .i64 x.f0, .slice Ae l.length ce, .int .i64 x.f2, .bool x.f3])
  M _ _ _ x cs := k31.K W x cs ∨ (x.f1 = l ∧ l.length ≤ ce ∧ cs = [.int .i64 x.f0, .slice Ae l.length ce, .int .i64 x.f2, .bool x.f3])
  K_len h := h.elim k31.K_len (fun h => by rw [h.2.2]; rfl)
  K_one h := h.elim k31.K_one (fun h => by rw [h.2.2]; simp [Value.oneCell'])
  K_below _ h := h
  K_of_M h := h
  M_mono _ h := h
  M_bound h := h
  M_move _ h := h
  M_lower _ h := h
theorem SB.toX {w0 W : World} {L : List As} {v : Value} {cs : List S31} (Ae : Option Addr) (ce : Nat) (l : List Int) (hS : SB w0 W (Row (kAt w0) 31 v cs :: L)) : SB w0 W (Row (kX w0 Ae ce l) 31 v cs :: L) := by
  obtain ⟨F, hF, _, K⟩ := hS.frame
  exact K W (Row (kX w0 Ae ce l) 31 v cs) F ⟨Kd.R_imp (d := kAt w0) (d' := kX w0 Ae ce l) rfl (fun _ _ _ _ _ hp => .inl hp) hF.1, hF.2⟩ (Fr.refl _ _) (fun k hk => .inl hk)
theorem kX_up {W w : World} {Ae A : Option Addr} {ce n : Nat} {l : List Int} {xs : List S31} (h : Kd.C (kX W Ae ce l) w A n xs) (hb : Below W.heap.size W w) (hC : Kd.C (Kd.int .u8) w Ae l.length l) : Kd.C k31 w A n xs :=
  ReadsRow.imp_ (R' := k31.K w) h (Below.refl _ _) (fun x cs hp => by
    rcases hp with hp | ⟨h1, h2, h3⟩
    · exact k31.K_below hb hp
    · rw [h3]
      subst h1
      exact k31_mk w x h2 hC)
theorem lit1 {W w : World} {pl : Nat} {op vl : Int} {l : List Int} {Ae : Option Addr} {ce : Nat} (hb : w.heap[pl]? = some (.cells #[.int .i64 op, .slice Ae l.length ce, .int .i64 vl, .bool false] 31 (0, 0))) (hl : l.length ≤ ce) :
    ReadsRow ((kX W Ae ce l).K w) 4 w (some ⟨pl, 0, none⟩) 1 [⟨op, l, vl, false⟩] := by
  refine ⟨rfl, by decide, fun _ => ⟨_, rfl, fun j p hj => ?_⟩⟩
  match j with
  | 0 =>
    simp only [List.getElem?_cons_zero, Option.some.injEq] at hj
    subst hj
    refine ⟨[.int .i64 op, .slice Ae l.length ce, .int .i64 vl, .bool false], rfl, .inr ⟨rfl, hl, rfl⟩, fun i u hu => ?_⟩
    rw [add0]
    have h2 := blk_cell hb (0 * 4 + i)
    rw [h2]
    simpa using hu
  | j + 1 => simp at hj
theorem holdOfX {w0 W : World} {L : List As} {B0 B1 Ae : Option Addr} {m n le d0 d1 ce : Nat} {v l : List Int} {cs : List S31} (hS : SB w0 W (Row (kX w0 Ae ce l) 31 (.slice B1 n d1) cs :: Row (Kd.int .u8) 5 (.slice B0 m d0) v :: Row (Kd.int .u8) 5 (.slice Ae le ce) l :: L)) : HoldS W B0 d0 B1 d1 v cs ∧ m = v.length ∧ n = cs.length := by
  obtain ⟨A, c, he, hc, hC⟩ := hS.reads
  injection he with e1 e2 e3
  subst e1 e3
  obtain ⟨A', c', he', hc', hC'⟩ := (hS.drop).reads
  injection he' with e1' e2' e3'
  subst e1' e3'
  obtain ⟨A2, c2, he2, hc2, hC2⟩ := (hS.drop.drop).reads
  injection he2 with f1 f2 f3
  subst f1 f3
  exact ⟨⟨hC', kX_up hC hS.bel hC2, hc', hc⟩, e2', e2⟩
def sOpen (v : List Int) (cs : List S31) (op : Int) (e : List Int) : List Int × List S31 × Int := if kSane v cs = true ∧ kLeft e = true then (v, cs ++ [⟨op, e, (v.length : Int), false⟩], 0) else ([], [], 1)
set_option maxHeartbeats 8000000 in
set_option maxRecDepth 100000 in
theorem stkOpen {w : World} {A0 A1 Al : Option Addr} {c0 c1 cl : Nat} {v l : List Int} {cs : List S31} (h : HoldS w A0 c0 A1 c1 v cs) (op : Int) (hl : Kd.C (Kd.int .u8) w Al l.length l) (hlc : l.length ≤ cl) (hm : modest v cs) (hlm : l.length ≤ 400000000) :
    Calls Try.prog 17 #[.agg #[.slice A0 v.length c0, .slice A1 cs.length c1], .int .i64 op, .slice Al l.length cl] w fun e w' => ∃ B0 d0 B1 d1, e = .returned (.tuple #[.agg #[.slice B0 (sOpen v cs op l).1.length d0, .slice B1 (sOpen v cs op l).2.1.length d1], .int .i64 (sOpen v cs op l).2.2]) ∧
      HoldS w' B0 d0 B1 d1 (sOpen v cs op l).1 (sOpen v cs op l).2.1 ∧ Below w.heap.size w w' := by
  have HH := Aside0.mk h
  have HL := Aside0.mk hl
  have HW := Aside0.mk ((((SB.start w).box #[.slice A0 v.length c0, .slice A1 cs.length c1] 28)).box #[.slice none 0 0, .slice none 0 0] 28)
  rw [World.size_alloc] at HW
  have HSA := Aside0.mk (fun (W : World) (hW : Below w.heap.size w W) => stkSane (h.below hW) hm)
  have HTY := Aside0.mk (fun (W : World) (hW : Below w.heap.size w W) => stkLeft (Kd.C_below hl hW) hlc)
  have hml := hm.1
  have hmc := hm.2
  obtain ⟨b1, hb1⟩ : ∃ b, kSane v cs = b := ⟨_, rfl⟩
  obtain ⟨b2, hb2⟩ : ∃ b, kLeft l = b := ⟨_, rfl⟩
  have hr : sOpen v cs op l = if b1 = true ∧ b2 = true then (v, cs ++ [⟨op, l, (v.length : Int), false⟩], 0) else ([], [], 1) := by unfold sOpen; rw [hb1, hb2]
  rw [hr]
  rw [hb1] at HSA
  rw [hb2] at HTY
  clear h hl hr hb1 hb2
  cases b1 with
  | false =>
    simp only [Bool.false_eq_true, false_and, if_false]
    go_enter Try.func17, Try.ntmps17
    go_wp2_with (go_at_call 12; refine (HSA.out _ HW.out.bel).mono ?_; rintro e w1 ⟨rfl, hb⟩; have HW1 := Aside0.mk (HW.out.below hb); clear hb; have x2 := SB.boxAt (w.heap.size + 1) 28 HW1.out; have z0 := blk_cell x2 0; have z1 := blk_cell x2 1; have y0 := blk_fro x2 0; have y1 := blk_fro x2 1; clear x2)
    exact bodyPost_ret (v := .tuple #[.agg #[.slice none 0 0, .slice none 0 0], .int .i64 1]) (by simp [results, Try.results17, go_sem, *]) rfl ⟨none, 0, none, 0, rfl, holdNil _, ((HW1.out.set1 0 (.slice none 0 0)).set1 1 (.slice none 0 0)).bel⟩
  | true =>
    cases b2 with
    | false =>
      simp only [Bool.false_eq_true, and_false, if_false]
      go_enter Try.func17, Try.ntmps17
      go_wp2_with (first
        | (go_at_call 12; refine (HSA.out _ HW.out.bel).mono ?_; rintro e w0 ⟨rfl, hb⟩; have HW0 := Aside0.mk (HW.out.below hb); clear hb)
        | (go_at_call 35; refine (HTY.out _ HW0.out.bel).mono ?_; rintro e w1 ⟨rfl, hb⟩; have HW1 := Aside0.mk (HW0.out.below hb); clear hb; have x2 := SB.boxAt (w.heap.size + 1) 28 HW1.out; have z0 := blk_cell x2 0; have z1 := blk_cell x2 1; have y0 := blk_fro x2 0; have y1 := blk_fro x2 1; clear x2))
      exact bodyPost_ret (v := .tuple #[.agg #[.slice none 0 0, .slice none 0 0], .int .i64 1]) (by simp [results, Try.results17, go_sem, *]) rfl ⟨none, 0, none, 0, rfl, holdNil _, ((HW1.out.set1 0 (.slice none 0 0)).set1 1 (.slice none 0 0)).bel⟩
    | true =>
      simp only [and_self, if_true]
      obtain ⟨csx, hcsx⟩ : ∃ csx, cs ++ [(⟨op, l, (v.length : Int), false⟩ : S31)] = csx := ⟨_, rfl⟩
      rw [hcsx]
      have HCX := Aside0.mk hcsx
      clear hcsx
      have hi31 := info31
      have hclV : bytes_Clone.f v = some v := by unfold bytes_Clone.f; rw [if_pos (by omega)]
      have hclL : bytes_Clone.f l = some l := by unfold bytes_Clone.f; rw [if_pos (by omega)]
      go_enter Try.func17, Try.ntmps17
      go_wp2_with (first
        | (go_at_call 12; refine (HSA.out _ HW.out.bel).mono ?_; rintro e w0 ⟨rfl, hb⟩; have HW0 := Aside0.mk (HW.out.below hb); clear hb)
        | (go_at_call 35; refine (HTY.out _ HW0.out.bel).mono ?_; rintro e w1 ⟨rfl, hb⟩; have HW1 := Aside0.mk (HW0.out.below hb); clear hb))
      have hW1 : SB w w1.drew [BoxO (w.heap.size + 1) 28 2 none, Box w.heap.size #[.slice A0 v.length c0, .slice A1 cs.length c1] 28] := (HW1.out.drew).boxHide 2
      refine rg_startL (n := 9) (S := fun w' => SB w w' [BoxO (w.heap.size + 1) 28 2 none, Box w.heap.size #[.slice A0 v.length c0, .slice A1 cs.length c1] 28]) (bm 9 0) (by kernel_rfl) rfl (by kernel_rfl) (hW1) (fun wd hwd hHeld => ?_)
      refine rg_take (i := 0) (N := some 18) (v := ?_) (a' := ?_) (bm 9 1) rfl rfl (by kernel_rfl) (fun _ _ _ h => h) hHeld (Or.inl ⟨by rfl, ?_⟩) ?_ ?_
      rotate_left
      · intro w' hw'
        have hbx := SB.boxAt w.heap.size 28 hw'
        have s0 := blk_cell hbx 0
        have s1 := blk_cell hbx 1
        go_simp
        with_reducible rfl
      rotate_left
      · simp only [Act.put, List.setIfInBounds_toArray, List.set_cons_zero, List.set_cons_succ]
        rfl
      refine rg_take (i := 1) (N := some 19) (v := ?_) (a' := ?_) (bm 9 3) rfl rfl (by kernel_rfl) (fun _ _ _ h => h) hHeld (Or.inl ⟨by rfl, ?_⟩) ?_ ?_
      rotate_left
      · intro w' hw'
        have hbx := SB.boxAt w.heap.size 28 hw'
        have s0 := blk_cell hbx 0
        have s1 := blk_cell hbx 1
        go_simp
        with_reducible rfl
      rotate_left
      · simp only [Act.put, List.setIfInBounds_toArray, List.set_cons_zero, List.set_cons_succ]
        rfl
      refine rg_take (i := 3) (N := some 21) (v := ?_) (a' := ?_) (bm 9 11) rfl rfl (by kernel_rfl) (fun _ _ _ h => h) hHeld (Or.inl ⟨by rfl, ?_⟩) ?_ ?_
      rotate_left
      · intro w' hw'
        have hbx := SB.boxAt w.heap.size 28 hw'
        have s0 := blk_cell hbx 0
        have s1 := blk_cell hbx 1
        go_simp
        with_reducible rfl
      rotate_left
      · simp only [Act.put, List.setIfInBounds_toArray, List.set_cons_zero, List.set_cons_succ]
        rfl
      refine rg_take (i := 4) (N := some 22) (v := ?_) (a' := ?_) (bm 9 27) rfl rfl (by kernel_rfl) (fun _ _ _ h => h) hHeld (Or.inl ⟨by rfl, ?_⟩) ?_ ?_
      rotate_left
      · intro w' hw'
        have hbx := SB.boxAt w.heap.size 28 hw'
        have s0 := blk_cell hbx 0
        have s1 := blk_cell hbx 1
        go_simp
        with_reducible rfl
      rotate_left
      · simp only [Act.put, List.setIfInBounds_toArray, List.set_cons_zero, List.set_cons_succ]
        rfl
      refine rg_take (i := 5) (N := some 23) (v := ?_) (a' := ?_) (bm 9 59) rfl rfl (by kernel_rfl) (fun _ _ _ h => h) hHeld (Or.inl ⟨by rfl, ?_⟩) ?_ ?_
      rotate_left
      · intro w' hw'
        have hbx := SB.boxAt w.heap.size 28 hw'
        have s0 := blk_cell hbx 0
        have s1 := blk_cell hbx 1
        go_simp
        with_reducible rfl
      rotate_left
      · simp only [Act.put, List.setIfInBounds_toArray, List.set_cons_zero, List.set_cons_succ]
        rfl
      refine rg_ready [2, 7] (by kernel_rfl) (by simp) ?_
      refine rg_one (i := 2) (N := some 20) (bm 9 63) rfl rfl (by kernel_rfl) (fun K hK => ?_) ?_
      · skip
        go_simp
        go_at_call 39
        with_reducible refine (bytes_Clone.calls Al cl l l _ (Kd.C_below HL.out hHeld.bel) hlc hclL).mono ?_
        rintro e wx2r3 ⟨v1, rfl, hr, hb⟩
        obtain ⟨Ae, ce, rfl⟩ := Kd.R_slice hr
        have hnew := hHeld.row hb hr
        clear hr hb
        go_wp2_with fail
        refine hK.out _ _ hnew.drop ?_
        clear hK K
        refine rg_norm (a' := ?_) ?_ ?_
        rotate_left
        · simp only [Act.put, List.setIfInBounds_toArray, List.set_cons_zero, List.set_cons_succ]
          rfl
        refine rg_sb hnew ?_
        clear hHeld
        have hHeld := hnew
        clear hnew
        refine rg_take (i := 6) (N := some 24) (v := ?_) (a' := ?_) (bm 9 127) rfl rfl (by kernel_rfl) (fun _ _ _ h => h) hHeld (Or.inl ⟨by rfl, ?_⟩) ?_ ?_
        rotate_left
        · intro w' hw'
          have hbx := SB.boxAt w.heap.size 28 hw'
          have s0 := blk_cell hbx 0
          have s1 := blk_cell hbx 1
          go_simp
          with_reducible rfl
        rotate_left
        · simp only [Act.put, List.setIfInBounds_toArray, List.set_cons_zero, List.set_cons_succ]
          rfl
        refine rg_ready [7] (by kernel_rfl) (by simp) ?_
        refine rg_one (i := 7) (N := some 8) (bm 9 255) rfl rfl (by kernel_rfl) (fun K hK => ?_) rg_nil
        refine valueL_ (w1 := ?_) (v := ?_) (by rfl) rfl ?_ ?_
        rotate_left 2
        · go_simp
          constructor
          · rfl
          · rfl
        intro wx2x7r3 hwwx2x7r3
        obtain ⟨p8, hnew, hp8⟩ := hHeld.boxN #[.int .i64 0, .slice none 0 0, .int .i64 0, .bool false] 31 4
        replace hnew : SB w wx2x7r3 _ := hwwx2x7r3 ▸ hnew
        clear hwwx2x7r3
        rw [hp8]
        clear hp8
        refine hK.out _ _ hnew.drop ?_
        clear hK K
        refine rg_norm (a' := ?_) ?_ ?_
        rotate_left
        · simp only [Act.put, List.setIfInBounds_toArray, List.set_cons_zero, List.set_cons_succ]
          rfl
        refine rg_sb hnew ?_
        clear hHeld
        have hHeld := hnew
        clear hnew
        refine rg_ready [8] (by kernel_rfl) (by simp) ?_
        refine rg_one (i := 8) (N := none) (bm 9 511) rfl rfl (by kernel_rfl) (fun K hK => ?_) rg_nil
        obtain ⟨x0, x1, x2, x3, s0, s1, s2, s3, y0, y1, y2, y3, h2, hnew⟩ := SB.write4 p8 31 hHeld (.int .i64 op) (.slice Ae l.length ce) (.int .i64 (v.length : Int)) (.bool false)
        have HZ := Aside0.mk h2
        clear h2
        go_simp
        refine hK.out undef _ hnew ?_
        clear hK K
        refine rg_norm (a' := ?_) ?_ ?_
        rotate_left
        · simp only [Act.put, List.setIfInBounds_toArray, List.set_cons_zero, List.set_cons_succ]
          rfl
        clear hHeld
        have hHeld := hnew
        clear hnew
        refine rg_done (by kernel_rfl) ?_
        first | (have hN : SB w _ [Box p8 #[.int .i64 op, .slice Ae l.length ce, .int .i64 (v.length : Int), .bool false] 31, Row (Kd.int .u8) 5 (.slice Ae l.length ce) l, BoxO (w.heap.size + 1) 28 2 none, Box w.heap.size #[.slice A0 v.length c0, .slice A1 cs.length c1] 28] := HZ.out.pick [0, 1, 2, 3]) | (have hN : SB w _ [Box p8 #[.int .i64 op, .slice Ae l.length ce, .int .i64 (v.length : Int), .bool false] 31, Row (Kd.int .u8) 5 (.slice Ae l.length ce) l, BoxO (w.heap.size + 1) 28 2 none, Box w.heap.size #[.slice A0 v.length c0, .slice A1 cs.length c1] 28] := HZ.out.pick [1, 0, 2, 3])
        clear HZ hHeld
        go_wp2
        have hN2 := hN.drew
        refine rg_startL (n := 12) (S := fun w' => SB w w' [Box p8 #[.int .i64 op, .slice Ae l.length ce, .int .i64 (v.length : Int), .bool false] 31, Row (Kd.int .u8) 5 (.slice Ae l.length ce) l, BoxO (w.heap.size + 1) 28 2 none, Box w.heap.size #[.slice A0 v.length c0, .slice A1 cs.length c1] 28]) (bm 12 0) (by kernel_rfl) rfl (by kernel_rfl) (hN2) (fun we hwe hHeld => ?_)
        refine rg_take (i := 0) (N := some 25) (v := ?_) (a' := ?_) (bm 12 1) rfl rfl (by kernel_rfl) (fun _ _ _ h => h) hHeld (Or.inl ⟨by rfl, ?_⟩) ?_ ?_
        rotate_left
        · intro w' hw'
          have hbx := SB.boxAt w.heap.size 28 hw'
          have s0 := blk_cell hbx 0
          have s1 := blk_cell hbx 1
          have hby := SB.boxAt p8 31 hw'
          have r0 := blk_cell hby 0
          have r1 := blk_cell hby 1
          have r2 := blk_cell hby 2
          have r3 := blk_cell hby 3
          go_simp
          with_reducible rfl
        rotate_left
        · simp only [Act.put, List.setIfInBounds_toArray, List.set_cons_zero, List.set_cons_succ]
          rfl
        refine rg_take (i := 1) (N := some 26) (v := ?_) (a' := ?_) (bm 12 3) rfl rfl (by kernel_rfl) (fun _ _ _ h => h) hHeld (Or.inl ⟨by rfl, ?_⟩) ?_ ?_
        rotate_left
        · intro w' hw'
          have hbx := SB.boxAt w.heap.size 28 hw'
          have s0 := blk_cell hbx 0
          have s1 := blk_cell hbx 1
          have hby := SB.boxAt p8 31 hw'
          have r0 := blk_cell hby 0
          have r1 := blk_cell hby 1
          have r2 := blk_cell hby 2
          have r3 := blk_cell hby 3
          go_simp
          with_reducible rfl
        rotate_left
        · simp only [Act.put, List.setIfInBounds_toArray, List.set_cons_zero, List.set_cons_succ]
          rfl
        refine rg_take (i := 3) (N := some 28) (v := ?_) (a' := ?_) (bm 12 11) rfl rfl (by kernel_rfl) (fun _ _ _ h => h) hHeld (Or.inl ⟨by rfl, ?_⟩) ?_ ?_
        rotate_left
        · intro w' hw'
          have hbx := SB.boxAt w.heap.size 28 hw'
          have s0 := blk_cell hbx 0
          have s1 := blk_cell hbx 1
          have hby := SB.boxAt p8 31 hw'
          have r0 := blk_cell hby 0
          have r1 := blk_cell hby 1
          have r2 := blk_cell hby 2
          have r3 := blk_cell hby 3
          go_simp
          with_reducible rfl
        rotate_left
        · simp only [Act.put, List.setIfInBounds_toArray, List.set_cons_zero, List.set_cons_succ]
          rfl
        refine rg_take (i := 4) (N := some 29) (v := ?_) (a' := ?_) (bm 12 27) rfl rfl (by kernel_rfl) (fun _ _ _ h => h) hHeld (Or.inl ⟨by rfl, ?_⟩) ?_ ?_
        rotate_left
        · intro w' hw'
          have hbx := SB.boxAt w.heap.size 28 hw'
          have s0 := blk_cell hbx 0
          have s1 := blk_cell hbx 1
          have hby := SB.boxAt p8 31 hw'
          have r0 := blk_cell hby 0
          have r1 := blk_cell hby 1
          have r2 := blk_cell hby 2
          have r3 := blk_cell hby 3
          go_simp
          with_reducible rfl
        rotate_left
        · simp only [Act.put, List.setIfInBounds_toArray, List.set_cons_zero, List.set_cons_succ]
          rfl
        refine rg_take (i := 6) (N := some 31) (v := ?_) (a' := ?_) (bm 12 91) rfl rfl (by kernel_rfl) (fun _ _ _ h => h) hHeld (Or.inl ⟨by rfl, ?_⟩) ?_ ?_
        rotate_left
        · intro w' hw'
          have hbx := SB.boxAt w.heap.size 28 hw'
          have s0 := blk_cell hbx 0
          have s1 := blk_cell hbx 1
          have hby := SB.boxAt p8 31 hw'
          have r0 := blk_cell hby 0
          have r1 := blk_cell hby 1
          have r2 := blk_cell hby 2
          have r3 := blk_cell hby 3
          go_simp
          with_reducible rfl
        rotate_left
        · simp only [Act.put, List.setIfInBounds_toArray, List.set_cons_zero, List.set_cons_succ]
          rfl
        refine rg_ready [2, 7] (by kernel_rfl) (by simp) ?_
        refine rg_one (i := 2) (N := some 27) (bm 12 95) rfl rfl (by kernel_rfl) (fun K hK => ?_) ?_
        · skip
          go_simp
          go_at_call 39
          with_reducible refine (bytes_Clone.calls A0 c0 v v _ (Kd.C_below HH.out.hv hHeld.bel) HH.out.lv hclV).mono ?_
          rintro e wx2r4 ⟨v1, rfl, hr, hb⟩
          obtain ⟨Av, cv, rfl⟩ := Kd.R_slice hr
          have hnew := hHeld.row hb hr
          clear hr hb
          go_wp2_with fail
          refine hK.out _ _ hnew.drop ?_
          clear hK K
          refine rg_norm (a' := ?_) ?_ ?_
          rotate_left
          · simp only [Act.put, List.setIfInBounds_toArray, List.set_cons_zero, List.set_cons_succ]
            rfl
          refine rg_sb hnew ?_
          clear hHeld
          have hHeld := hnew
          clear hnew
          refine rg_ready [5, 7] (by kernel_rfl) (by simp) ?_
          refine rg_one (i := 5) (N := some 30) (bm 12 127) rfl rfl (by kernel_rfl) (fun K hK => ?_) ?_
          · skip
            go_simp
            go_at_call 38
            with_reducible refine (cloneC w A1 c1 cs _ (Kd.C_below (kAt_of HH.out.hc) hHeld.bel) HH.out.lc (by omega)).mono ?_
            rintro e wx2x5r4 ⟨v2, rfl, hr, hb⟩
            have HR5 := Aside0.mk (hHeld.row hb hr)
            have hnew := hHeld.below hb
            clear hr hb
            go_wp2_with fail
            refine hK.out _ _ hnew ?_
            clear hK K
            refine rg_norm (a' := ?_) ?_ ?_
            rotate_left
            · simp only [Act.put, List.setIfInBounds_toArray, List.set_cons_zero, List.set_cons_succ]
              rfl
            clear hHeld
            have hHeld := hnew
            clear hnew
            refine rg_ready [7] (by kernel_rfl) (by simp) ?_
            refine rg_one (i := 7) (N := some 32) (bm 12 255) rfl rfl (by kernel_rfl) (fun K hK => ?_) rg_nil
            refine valueL_ (w1 := ?_) (v := ?_) (by rfl) rfl ?_ ?_
            rotate_left 2
            · go_simp
              constructor
              · rfl
              · rfl
            intro wx2x5x7r4 hwwx2x5x7r4
            obtain ⟨pl, hpl, hnew⟩ := hHeld.boxE #[.int .i64 op, .slice Ae l.length ce, .int .i64 (v.length : Int), .bool false] 31
            replace hnew : SB w wx2x5x7r4 _ := hwwx2x5x7r4 ▸ hnew
            try (have HR6 := (HR5.out.box #[.int .i64 op, .slice Ae l.length ce, .int .i64 (v.length : Int), .bool false] 31).swap; replace HR6 : SB w wx2x5x7r4 _ := hwwx2x5x7r4 ▸ HR6; rw [← hpl] at HR6; clear HR5; have HR5 := Aside0.mk HR6; clear HR6)
            clear hwwx2x5x7r4
            rw [← hpl]
            clear hpl
            refine hK.out _ _ hnew.drop ?_
            clear hK K
            refine rg_norm (a' := ?_) ?_ ?_
            rotate_left
            · simp only [Act.put, List.setIfInBounds_toArray, List.set_cons_zero, List.set_cons_succ]
              rfl
            refine rg_sb hnew ?_
            clear hHeld
            have hHeld := hnew
            clear hnew
            refine rg_ready [8] (by kernel_rfl) (by simp) ?_
            refine rg_one (i := 8) (N := some 33) (bm 12 511) rfl rfl (by kernel_rfl) (fun K hK => ?_) rg_nil
            have hbl := SB.boxAt pl 31 hHeld
            obtain ⟨_, _, hle⟩ := hHeld.readRow (d := Kd.int .u8) (e := 5) Ae l.length ce
            refine SB.appRowsStep (d := kX w Ae ce l) (ys := [(⟨op, l, (v.length : Int), false⟩ : S31)]) (HR5.out.toX Ae ce l) (by rfl) (.tmp 30) (.tmp 32) 26 _ _ rfl Try.underlying26 hi31 rfl (show 0 < 4 by decide) (by decide) rfl rfl (fun _ _ h => h) (lit1 hbl hle) (by omega) ?_
            rw [HCX.out]
            intro v8 wx2x5x7x8r4 hs
            obtain ⟨A8, c8, e8, _, _⟩ := hs.reads
            subst e8
            have HR8 := Aside0.mk hs
            have hnew := hs.drop
            clear hs hbl
            refine hK.out _ _ hnew ?_
            clear hK K
            refine rg_norm (a' := ?_) ?_ ?_
            rotate_left
            · simp only [Act.put, List.setIfInBounds_toArray, List.set_cons_zero, List.set_cons_succ]
              rfl
            clear hHeld
            have hHeld := hnew
            clear hnew
            refine rg_take (i := 9) (N := some 34) (v := ?_) (a' := ?_) (bm 12 1023) rfl rfl (by kernel_rfl) (fun _ _ _ h => h) hHeld (Or.inl ⟨by rfl, ?_⟩) ?_ ?_
            rotate_left
            · intro w' hw'
              have hbx := SB.boxAt w.heap.size 28 hw'
              have s0 := blk_cell hbx 0
              have s1 := blk_cell hbx 1
              have hby := SB.boxAt p8 31 hw'
              have r0 := blk_cell hby 0
              have r1 := blk_cell hby 1
              have r2 := blk_cell hby 2
              have r3 := blk_cell hby 3
              go_simp
              with_reducible rfl
            rotate_left
            · simp only [Act.put, List.setIfInBounds_toArray, List.set_cons_zero, List.set_cons_succ]
              rfl
            refine rg_ready [10] (by kernel_rfl) (by simp) ?_
            refine rg_one (i := 10) (N := none) (bm 12 2047) rfl rfl (by kernel_rfl) (fun K hK => ?_) rg_nil
            obtain ⟨x0, x1, s0, s1, y0, y1, h2, hnew⟩ := SB.write2 (w.heap.size + 1) 28 hHeld (.slice Av v.length cv) (.slice A8 csx.length c8)
            obtain ⟨_, _, _, _, _, _, h3, _⟩ := SB.write2 (w.heap.size + 1) 28 HR8.out (.slice Av v.length cv) (.slice A8 csx.length c8)
            have HZ := Aside0.mk h3
            clear h2 h3
            go_simp
            refine hK.out undef _ hnew ?_
            clear hK K
            refine rg_norm (a' := ?_) ?_ ?_
            rotate_left
            · simp only [Act.put, List.setIfInBounds_toArray, List.set_cons_zero, List.set_cons_succ]
              rfl
            clear hHeld
            have hHeld := hnew
            clear hnew
            refine rg_take (i := 11) (N := some 7) (v := ?_) (a' := ?_) (bm 12 4095) rfl rfl (by kernel_rfl) (fun _ _ _ h => h) hHeld (Or.inl ⟨by rfl, ?_⟩) ?_ ?_
            rotate_left
            · intro w' hw'
              have hbx := SB.boxAt w.heap.size 28 hw'
              have s0 := blk_cell hbx 0
              have s1 := blk_cell hbx 1
              have hby := SB.boxAt p8 31 hw'
              have r0 := blk_cell hby 0
              have r1 := blk_cell hby 1
              have r2 := blk_cell hby 2
              have r3 := blk_cell hby 3
              go_simp
              with_reducible rfl
            rotate_left
            · simp only [Act.put, List.setIfInBounds_toArray, List.set_cons_zero, List.set_cons_succ]
              rfl
            refine rg_done (by kernel_rfl) ?_
            have x9 := SB.boxOAt (w.heap.size + 1) 28 2 HZ.out
            have f0 := blk_cell x9 0
            have f1 := blk_cell x9 1
            go_wp2
            obtain ⟨hfin, _, _⟩ := (by first | exact holdOfX (HZ.out.pick [0, 2, 4]) | exact holdOfX (HZ.out.pick [0, 1, 4]) | exact holdOfX (HZ.out.pick [0, 1, 3]))
            exact bodyPost_ret (v := .tuple #[.agg #[.slice Av v.length cv, .slice A8 csx.length c8], .int .i64 0]) (by simp [results, Try.results17, go_sem, f0, f1]) rfl ⟨Av, cv, A8, c8, rfl, hfin, HZ.out.bel⟩
          refine rg_one (i := 7) (N := some 32) (bm 12 223) rfl rfl (by kernel_rfl) (fun K hK => ?_) ?_
          · skip
            refine valueL_ (w1 := ?_) (v := ?_) (by rfl) rfl ?_ ?_
            rotate_left 2
            · go_simp
              constructor
              · rfl
              · rfl
            intro wx2x7r4 hwwx2x7r4
            obtain ⟨pl, hpl, hnew⟩ := hHeld.boxE #[.int .i64 op, .slice Ae l.length ce, .int .i64 (v.length : Int), .bool false] 31
            replace hnew : SB w wx2x7r4 _ := hwwx2x7r4 ▸ hnew
            try (have HR6 := (HR5.out.box #[.int .i64 op, .slice Ae l.length ce, .int .i64 (v.length : Int), .bool false] 31).swap; replace HR6 : SB w wx2x7r4 _ := hwwx2x7r4 ▸ HR6; rw [← hpl] at HR6; clear HR5; have HR5 := Aside0.mk HR6; clear HR6)
            clear hwwx2x7r4
            rw [← hpl]
            clear hpl
            refine hK.out _ _ hnew.drop ?_
            clear hK K
            refine rg_norm (a' := ?_) ?_ ?_
            rotate_left
            · simp only [Act.put, List.setIfInBounds_toArray, List.set_cons_zero, List.set_cons_succ]
              rfl
            refine rg_sb hnew ?_
            clear hHeld
            have hHeld := hnew
            clear hnew
            refine rg_ready [5] (by kernel_rfl) (by simp) ?_
            refine rg_one (i := 5) (N := some 30) (bm 12 255) rfl rfl (by kernel_rfl) (fun K hK => ?_) rg_nil
            go_simp
            go_at_call 38
            with_reducible refine (cloneC w A1 c1 cs _ (Kd.C_below (kAt_of HH.out.hc) hHeld.bel) HH.out.lc (by omega)).mono ?_
            rintro e wx2x7x5r4 ⟨v2, rfl, hr, hb⟩
            have HR5 := Aside0.mk (hHeld.row hb hr)
            have hnew := hHeld.below hb
            clear hr hb
            go_wp2_with fail
            refine hK.out _ _ hnew ?_
            clear hK K
            refine rg_norm (a' := ?_) ?_ ?_
            rotate_left
            · simp only [Act.put, List.setIfInBounds_toArray, List.set_cons_zero, List.set_cons_succ]
              rfl
            clear hHeld
            have hHeld := hnew
            clear hnew
            refine rg_ready [8] (by kernel_rfl) (by simp) ?_
            refine rg_one (i := 8) (N := some 33) (bm 12 511) rfl rfl (by kernel_rfl) (fun K hK => ?_) rg_nil
            have hbl := SB.boxAt pl 31 hHeld
            obtain ⟨_, _, hle⟩ := hHeld.readRow (d := Kd.int .u8) (e := 5) Ae l.length ce
            refine SB.appRowsStep (d := kX w Ae ce l) (ys := [(⟨op, l, (v.length : Int), false⟩ : S31)]) (HR5.out.toX Ae ce l) (by rfl) (.tmp 30) (.tmp 32) 26 _ _ rfl Try.underlying26 hi31 rfl (show 0 < 4 by decide) (by decide) rfl rfl (fun _ _ h => h) (lit1 hbl hle) (by omega) ?_
            rw [HCX.out]
            intro v8 wx2x7x5x8r4 hs
            obtain ⟨A8, c8, e8, _, _⟩ := hs.reads
            subst e8
            have HR8 := Aside0.mk hs
            have hnew := hs.drop
            clear hs hbl
            refine hK.out _ _ hnew ?_
            clear hK K
            refine rg_norm (a' := ?_) ?_ ?_
            rotate_left
            · simp only [Act.put, List.setIfInBounds_toArray, List.set_cons_zero, List.set_cons_succ]
              rfl
            clear hHeld
            have hHeld := hnew
            clear hnew
            refine rg_take (i := 9) (N := some 34) (v := ?_) (a' := ?_) (bm 12 1023) rfl rfl (by kernel_rfl) (fun _ _ _ h => h) hHeld (Or.inl ⟨by rfl, ?_⟩) ?_ ?_
            rotate_left
            · intro w' hw'
              have hbx := SB.boxAt w.heap.size 28 hw'
              have s0 := blk_cell hbx 0
              have s1 := blk_cell hbx 1
              have hby := SB.boxAt p8 31 hw'
              have r0 := blk_cell hby 0
              have r1 := blk_cell hby 1
              have r2 := blk_cell hby 2
              have r3 := blk_cell hby 3
              go_simp
              with_reducible rfl
            rotate_left
            · simp only [Act.put, List.setIfInBounds_toArray, List.set_cons_zero, List.set_cons_succ]
              rfl
            refine rg_ready [10] (by kernel_rfl) (by simp) ?_
            refine rg_one (i := 10) (N := none) (bm 12 2047) rfl rfl (by kernel_rfl) (fun K hK => ?_) rg_nil
            obtain ⟨x0, x1, s0, s1, y0, y1, h2, hnew⟩ := SB.write2 (w.heap.size + 1) 28 hHeld (.slice Av v.length cv) (.slice A8 csx.length c8)
            obtain ⟨_, _, _, _, _, _, h3, _⟩ := SB.write2 (w.heap.size + 1) 28 HR8.out (.slice Av v.length cv) (.slice A8 csx.length c8)
            have HZ := Aside0.mk h3
            clear h2 h3
            go_simp
            refine hK.out undef _ hnew ?_
            clear hK K
            refine rg_norm (a' := ?_) ?_ ?_
            rotate_left
            · simp only [Act.put, List.setIfInBounds_toArray, List.set_cons_zero, List.set_cons_succ]
              rfl
            clear hHeld
            have hHeld := hnew
            clear hnew
            refine rg_take (i := 11) (N := some 7) (v := ?_) (a' := ?_) (bm 12 4095) rfl rfl (by kernel_rfl) (fun _ _ _ h => h) hHeld (Or.inl ⟨by rfl, ?_⟩) ?_ ?_
            rotate_left
            · intro w' hw'
              have hbx := SB.boxAt w.heap.size 28 hw'
              have s0 := blk_cell hbx 0
              have s1 := blk_cell hbx 1
              have hby := SB.boxAt p8 31 hw'
              have r0 := blk_cell hby 0
              have r1 := blk_cell hby 1
              have r2 := blk_cell hby 2
              have r3 := blk_cell hby 3
              go_simp
              with_reducible rfl
            rotate_left
            · simp only [Act.put, List.setIfInBounds_toArray, List.set_cons_zero, List.set_cons_succ]
              rfl
            refine rg_done (by kernel_rfl) ?_
            have x9 := SB.boxOAt (w.heap.size + 1) 28 2 HZ.out
            have f0 := blk_cell x9 0
            have f1 := blk_cell x9 1
            go_wp2
            obtain ⟨hfin, _, _⟩ := (by first | exact holdOfX (HZ.out.pick [0, 2, 4]) | exact holdOfX (HZ.out.pick [0, 1, 4]) | exact holdOfX (HZ.out.pick [0, 1, 3]))
            exact bodyPost_ret (v := .tuple #[.agg #[.slice Av v.length cv, .slice A8 csx.length c8], .int .i64 0]) (by simp [results, Try.results17, go_sem, f0, f1]) rfl ⟨Av, cv, A8, c8, rfl, hfin, HZ.out.bel⟩
          exact rg_nil
        refine rg_one (i := 7) (N := some 32) (bm 12 219) rfl rfl (by kernel_rfl) (fun K hK => ?_) ?_
        · skip
          refine valueL_ (w1 := ?_) (v := ?_) (by rfl) rfl ?_ ?_
          rotate_left 2
          · go_simp
            constructor
            · rfl
            · rfl
          intro wx7r4 hwwx7r4
          obtain ⟨pl, hpl, hnew⟩ := hHeld.boxE #[.int .i64 op, .slice Ae l.length ce, .int .i64 (v.length : Int), .bool false] 31
          replace hnew : SB w wx7r4 _ := hwwx7r4 ▸ hnew
          try (have HR6 := (HR5.out.box #[.int .i64 op, .slice Ae l.length ce, .int .i64 (v.length : Int), .bool false] 31).swap; replace HR6 : SB w wx7r4 _ := hwwx7r4 ▸ HR6; rw [← hpl] at HR6; clear HR5; have HR5 := Aside0.mk HR6; clear HR6)
          clear hwwx7r4
          rw [← hpl]
          clear hpl
          refine hK.out _ _ hnew.drop ?_
          clear hK K
          refine rg_norm (a' := ?_) ?_ ?_
          rotate_left
          · simp only [Act.put, List.setIfInBounds_toArray, List.set_cons_zero, List.set_cons_succ]
            rfl
          refine rg_sb hnew ?_
          clear hHeld
          have hHeld := hnew
          clear hnew
          refine rg_ready [2] (by kernel_rfl) (by simp) ?_
          refine rg_one (i := 2) (N := some 27) (bm 12 223) rfl rfl (by kernel_rfl) (fun K hK => ?_) rg_nil
          go_simp
          go_at_call 39
          with_reducible refine (bytes_Clone.calls A0 c0 v v _ (Kd.C_below HH.out.hv hHeld.bel) HH.out.lv hclV).mono ?_
          rintro e wx7x2r4 ⟨v1, rfl, hr, hb⟩
          obtain ⟨Av, cv, rfl⟩ := Kd.R_slice hr
          have hnew := hHeld.row hb hr
          clear hr hb
          go_wp2_with fail
          refine hK.out _ _ hnew.drop ?_
          clear hK K
          refine rg_norm (a' := ?_) ?_ ?_
          rotate_left
          · simp only [Act.put, List.setIfInBounds_toArray, List.set_cons_zero, List.set_cons_succ]
            rfl
          refine rg_sb hnew ?_
          clear hHeld
          have hHeld := hnew
          clear hnew
          refine rg_ready [5] (by kernel_rfl) (by simp) ?_
          refine rg_one (i := 5) (N := some 30) (bm 12 255) rfl rfl (by kernel_rfl) (fun K hK => ?_) rg_nil
          go_simp
          go_at_call 38
          with_reducible refine (cloneC w A1 c1 cs _ (Kd.C_below (kAt_of HH.out.hc) hHeld.bel) HH.out.lc (by omega)).mono ?_
          rintro e wx7x2x5r4 ⟨v2, rfl, hr, hb⟩
          have HR5 := Aside0.mk (hHeld.row hb hr)
          have hnew := hHeld.below hb
          clear hr hb
          go_wp2_with fail
          refine hK.out _ _ hnew ?_
          clear hK K
          refine rg_norm (a' := ?_) ?_ ?_
          rotate_left
          · simp only [Act.put, List.setIfInBounds_toArray, List.set_cons_zero, List.set_cons_succ]
            rfl
          clear hHeld
          have hHeld := hnew
          clear hnew
          refine rg_ready [8] (by kernel_rfl) (by simp) ?_
          refine rg_one (i := 8) (N := some 33) (bm 12 511) rfl rfl (by kernel_rfl) (fun K hK => ?_) rg_nil
          have hbl := SB.boxAt pl 31 hHeld
          obtain ⟨_, _, hle⟩ := hHeld.readRow (d := Kd.int .u8) (e := 5) Ae l.length ce
          refine SB.appRowsStep (d := kX w Ae ce l) (ys := [(⟨op, l, (v.length : Int), false⟩ : S31)]) (HR5.out.toX Ae ce l) (by rfl) (.tmp 30) (.tmp 32) 26 _ _ rfl Try.underlying26 hi31 rfl (show 0 < 4 by decide) (by decide) rfl rfl (fun _ _ h => h) (lit1 hbl hle) (by omega) ?_
          rw [HCX.out]
          intro v8 wx7x2x5x8r4 hs
          obtain ⟨A8, c8, e8, _, _⟩ := hs.reads
          subst e8
          have HR8 := Aside0.mk hs
          have hnew := hs.drop
          clear hs hbl
          refine hK.out _ _ hnew ?_
          clear hK K
          refine rg_norm (a' := ?_) ?_ ?_
          rotate_left
          · simp only [Act.put, List.setIfInBounds_toArray, List.set_cons_zero, List.set_cons_succ]
            rfl
          clear hHeld
          have hHeld := hnew
          clear hnew
          refine rg_take (i := 9) (N := some 34) (v := ?_) (a' := ?_) (bm 12 1023) rfl rfl (by kernel_rfl) (fun _ _ _ h => h) hHeld (Or.inl ⟨by rfl, ?_⟩) ?_ ?_
          rotate_left
          · intro w' hw'
            have hbx := SB.boxAt w.heap.size 28 hw'
            have s0 := blk_cell hbx 0
            have s1 := blk_cell hbx 1
            have hby := SB.boxAt p8 31 hw'
            have r0 := blk_cell hby 0
            have r1 := blk_cell hby 1
            have r2 := blk_cell hby 2
            have r3 := blk_cell hby 3
            go_simp
            with_reducible rfl
          rotate_left
          · simp only [Act.put, List.setIfInBounds_toArray, List.set_cons_zero, List.set_cons_succ]
            rfl
          refine rg_ready [10] (by kernel_rfl) (by simp) ?_
          refine rg_one (i := 10) (N := none) (bm 12 2047) rfl rfl (by kernel_rfl) (fun K hK => ?_) rg_nil
          obtain ⟨x0, x1, s0, s1, y0, y1, h2, hnew⟩ := SB.write2 (w.heap.size + 1) 28 hHeld (.slice Av v.length cv) (.slice A8 csx.length c8)
          obtain ⟨_, _, _, _, _, _, h3, _⟩ := SB.write2 (w.heap.size + 1) 28 HR8.out (.slice Av v.length cv) (.slice A8 csx.length c8)
          have HZ := Aside0.mk h3
          clear h2 h3
          go_simp
          refine hK.out undef _ hnew ?_
          clear hK K
          refine rg_norm (a' := ?_) ?_ ?_
          rotate_left
          · simp only [Act.put, List.setIfInBounds_toArray, List.set_cons_zero, List.set_cons_succ]
            rfl
          clear hHeld
          have hHeld := hnew
          clear hnew
          refine rg_take (i := 11) (N := some 7) (v := ?_) (a' := ?_) (bm 12 4095) rfl rfl (by kernel_rfl) (fun _ _ _ h => h) hHeld (Or.inl ⟨by rfl, ?_⟩) ?_ ?_
          rotate_left
          · intro w' hw'
            have hbx := SB.boxAt w.heap.size 28 hw'
            have s0 := blk_cell hbx 0
            have s1 := blk_cell hbx 1
            have hby := SB.boxAt p8 31 hw'
            have r0 := blk_cell hby 0
            have r1 := blk_cell hby 1
            have r2 := blk_cell hby 2
            have r3 := blk_cell hby 3
            go_simp
            with_reducible rfl
          rotate_left
          · simp only [Act.put, List.setIfInBounds_toArray, List.set_cons_zero, List.set_cons_succ]
            rfl
          refine rg_done (by kernel_rfl) ?_
          have x9 := SB.boxOAt (w.heap.size + 1) 28 2 HZ.out
          have f0 := blk_cell x9 0
          have f1 := blk_cell x9 1
          go_wp2
          obtain ⟨hfin, _, _⟩ := (by first | exact holdOfX (HZ.out.pick [0, 2, 4]) | exact holdOfX (HZ.out.pick [0, 1, 4]) | exact holdOfX (HZ.out.pick [0, 1, 3]))
          exact bodyPost_ret (v := .tuple #[.agg #[.slice Av v.length cv, .slice A8 csx.length c8], .int .i64 0]) (by simp [results, Try.results17, go_sem, f0, f1]) rfl ⟨Av, cv, A8, c8, rfl, hfin, HZ.out.bel⟩
        exact rg_nil
      refine rg_one (i := 7) (N := some 8) (bm 9 187) rfl rfl (by kernel_rfl) (fun K hK => ?_) ?_
      · skip
        refine valueL_ (w1 := ?_) (v := ?_) (by rfl) rfl ?_ ?_
        rotate_left 2
        · go_simp
          constructor
          · rfl
          · rfl
        intro wx7r3 hwwx7r3
        obtain ⟨p8, hnew, hp8⟩ := hHeld.boxN #[.int .i64 0, .slice none 0 0, .int .i64 0, .bool false] 31 4
        replace hnew : SB w wx7r3 _ := hwwx7r3 ▸ hnew
        clear hwwx7r3
        rw [hp8]
        clear hp8
        refine hK.out _ _ hnew.drop ?_
        clear hK K
        refine rg_norm (a' := ?_) ?_ ?_
        rotate_left
        · simp only [Act.put, List.setIfInBounds_toArray, List.set_cons_zero, List.set_cons_succ]
          rfl
        refine rg_sb hnew ?_
        clear hHeld
        have hHeld := hnew
        clear hnew
        refine rg_ready [2] (by kernel_rfl) (by simp) ?_
        refine rg_one (i := 2) (N := some 20) (bm 9 191) rfl rfl (by kernel_rfl) (fun K hK => ?_) rg_nil
        go_simp
        go_at_call 39
        with_reducible refine (bytes_Clone.calls Al cl l l _ (Kd.C_below HL.out hHeld.bel) hlc hclL).mono ?_
        rintro e wx7x2r3 ⟨v1, rfl, hr, hb⟩
        obtain ⟨Ae, ce, rfl⟩ := Kd.R_slice hr
        have hnew := hHeld.row hb hr
        clear hr hb
        go_wp2_with fail
        refine hK.out _ _ hnew.drop ?_
        clear hK K
        refine rg_norm (a' := ?_) ?_ ?_
        rotate_left
        · simp only [Act.put, List.setIfInBounds_toArray, List.set_cons_zero, List.set_cons_succ]
          rfl
        refine rg_sb hnew ?_
        clear hHeld
        have hHeld := hnew
        clear hnew
        refine rg_take (i := 6) (N := some 24) (v := ?_) (a' := ?_) (bm 9 255) rfl rfl (by kernel_rfl) (fun _ _ _ h => h) hHeld (Or.inl ⟨by rfl, ?_⟩) ?_ ?_
        rotate_left
        · intro w' hw'
          have hbx := SB.boxAt w.heap.size 28 hw'
          have s0 := blk_cell hbx 0
          have s1 := blk_cell hbx 1
          go_simp
          with_reducible rfl
        rotate_left
        · simp only [Act.put, List.setIfInBounds_toArray, List.set_cons_zero, List.set_cons_succ]
          rfl
        refine rg_ready [8] (by kernel_rfl) (by simp) ?_
        refine rg_one (i := 8) (N := none) (bm 9 511) rfl rfl (by kernel_rfl) (fun K hK => ?_) rg_nil
        obtain ⟨x0, x1, x2, x3, s0, s1, s2, s3, y0, y1, y2, y3, h2, hnew⟩ := SB.write4 p8 31 hHeld (.int .i64 op) (.slice Ae l.length ce) (.int .i64 (v.length : Int)) (.bool false)
        have HZ := Aside0.mk h2
        clear h2
        go_simp
        refine hK.out undef _ hnew ?_
        clear hK K
        refine rg_norm (a' := ?_) ?_ ?_
        rotate_left
        · simp only [Act.put, List.setIfInBounds_toArray, List.set_cons_zero, List.set_cons_succ]
          rfl
        clear hHeld
        have hHeld := hnew
        clear hnew
        refine rg_done (by kernel_rfl) ?_
        first | (have hN : SB w _ [Box p8 #[.int .i64 op, .slice Ae l.length ce, .int .i64 (v.length : Int), .bool false] 31, Row (Kd.int .u8) 5 (.slice Ae l.length ce) l, BoxO (w.heap.size + 1) 28 2 none, Box w.heap.size #[.slice A0 v.length c0, .slice A1 cs.length c1] 28] := HZ.out.pick [0, 1, 2, 3]) | (have hN : SB w _ [Box p8 #[.int .i64 op, .slice Ae l.length ce, .int .i64 (v.length : Int), .bool false] 31, Row (Kd.int .u8) 5 (.slice Ae l.length ce) l, BoxO (w.heap.size + 1) 28 2 none, Box w.heap.size #[.slice A0 v.length c0, .slice A1 cs.length c1] 28] := HZ.out.pick [1, 0, 2, 3])
        clear HZ hHeld
        go_wp2
        have hN2 := hN.drew
        refine rg_startL (n := 12) (S := fun w' => SB w w' [Box p8 #[.int .i64 op, .slice Ae l.length ce, .int .i64 (v.length : Int), .bool false] 31, Row (Kd.int .u8) 5 (.slice Ae l.length ce) l, BoxO (w.heap.size + 1) 28 2 none, Box w.heap.size #[.slice A0 v.length c0, .slice A1 cs.length c1] 28]) (bm 12 0) (by kernel_rfl) rfl (by kernel_rfl) (hN2) (fun we hwe hHeld => ?_)
        refine rg_take (i := 0) (N := some 25) (v := ?_) (a' := ?_) (bm 12 1) rfl rfl (by kernel_rfl) (fun _ _ _ h => h) hHeld (Or.inl ⟨by rfl, ?_⟩) ?_ ?_
        rotate_left
        · intro w' hw'
          have hbx := SB.boxAt w.heap.size 28 hw'
          have s0 := blk_cell hbx 0
          have s1 := blk_cell hbx 1
          have hby := SB.boxAt p8 31 hw'
          have r0 := blk_cell hby 0
          have r1 := blk_cell hby 1
          have r2 := blk_cell hby 2
          have r3 := blk_cell hby 3
          go_simp
          with_reducible rfl
        rotate_left
        · simp only [Act.put, List.setIfInBounds_toArray, List.set_cons_zero, List.set_cons_succ]
          rfl
        refine rg_take (i := 1) (N := some 26) (v := ?_) (a' := ?_) (bm 12 3) rfl rfl (by kernel_rfl) (fun _ _ _ h => h) hHeld (Or.inl ⟨by rfl, ?_⟩) ?_ ?_
        rotate_left
        · intro w' hw'
          have hbx := SB.boxAt w.heap.size 28 hw'
          have s0 := blk_cell hbx 0
          have s1 := blk_cell hbx 1
          have hby := SB.boxAt p8 31 hw'
          have r0 := blk_cell hby 0
          have r1 := blk_cell hby 1
          have r2 := blk_cell hby 2
          have r3 := blk_cell hby 3
          go_simp
          with_reducible rfl
        rotate_left
        · simp only [Act.put, List.setIfInBounds_toArray, List.set_cons_zero, List.set_cons_succ]
          rfl
        refine rg_take (i := 3) (N := some 28) (v := ?_) (a' := ?_) (bm 12 11) rfl rfl (by kernel_rfl) (fun _ _ _ h => h) hHeld (Or.inl ⟨by rfl, ?_⟩) ?_ ?_
        rotate_left
        · intro w' hw'
          have hbx := SB.boxAt w.heap.size 28 hw'
          have s0 := blk_cell hbx 0
          have s1 := blk_cell hbx 1
          have hby := SB.boxAt p8 31 hw'
          have r0 := blk_cell hby 0
          have r1 := blk_cell hby 1
          have r2 := blk_cell hby 2
          have r3 := blk_cell hby 3
          go_simp
          with_reducible rfl
        rotate_left
        · simp only [Act.put, List.setIfInBounds_toArray, List.set_cons_zero, List.set_cons_succ]
          rfl
        refine rg_take (i := 4) (N := some 29) (v := ?_) (a' := ?_) (bm 12 27) rfl rfl (by kernel_rfl) (fun _ _ _ h => h) hHeld (Or.inl ⟨by rfl, ?_⟩) ?_ ?_
        rotate_left
        · intro w' hw'
          have hbx := SB.boxAt w.heap.size 28 hw'
          have s0 := blk_cell hbx 0
          have s1 := blk_cell hbx 1
          have hby := SB.boxAt p8 31 hw'
          have r0 := blk_cell hby 0
          have r1 := blk_cell hby 1
          have r2 := blk_cell hby 2
          have r3 := blk_cell hby 3
          go_simp
          with_reducible rfl
        rotate_left
        · simp only [Act.put, List.setIfInBounds_toArray, List.set_cons_zero, List.set_cons_succ]
          rfl
        refine rg_take (i := 6) (N := some 31) (v := ?_) (a' := ?_) (bm 12 91) rfl rfl (by kernel_rfl) (fun _ _ _ h => h) hHeld (Or.inl ⟨by rfl, ?_⟩) ?_ ?_
        rotate_left
        · intro w' hw'
          have hbx := SB.boxAt w.heap.size 28 hw'
          have s0 := blk_cell hbx 0
          have s1 := blk_cell hbx 1
          have hby := SB.boxAt p8 31 hw'
          have r0 := blk_cell hby 0
          have r1 := blk_cell hby 1
          have r2 := blk_cell hby 2
          have r3 := blk_cell hby 3
          go_simp
          with_reducible rfl
        rotate_left
        · simp only [Act.put, List.setIfInBounds_toArray, List.set_cons_zero, List.set_cons_succ]
          rfl
        refine rg_ready [2, 7] (by kernel_rfl) (by simp) ?_
        refine rg_one (i := 2) (N := some 27) (bm 12 95) rfl rfl (by kernel_rfl) (fun K hK => ?_) ?_
        · skip
          go_simp
          go_at_call 39
          with_reducible refine (bytes_Clone.calls A0 c0 v v _ (Kd.C_below HH.out.hv hHeld.bel) HH.out.lv hclV).mono ?_
          rintro e wx2r4 ⟨v1, rfl, hr, hb⟩
          obtain ⟨Av, cv, rfl⟩ := Kd.R_slice hr
          have hnew := hHeld.row hb hr
          clear hr hb
          go_wp2_with fail
          refine hK.out _ _ hnew.drop ?_
          clear hK K
          refine rg_norm (a' := ?_) ?_ ?_
          rotate_left
          · simp only [Act.put, List.setIfInBounds_toArray, List.set_cons_zero, List.set_cons_succ]
            rfl
          refine rg_sb hnew ?_
          clear hHeld
          have hHeld := hnew
          clear hnew
          refine rg_ready [5, 7] (by kernel_rfl) (by simp) ?_
          refine rg_one (i := 5) (N := some 30) (bm 12 127) rfl rfl (by kernel_rfl) (fun K hK => ?_) ?_
          · skip
            go_simp
            go_at_call 38
            with_reducible refine (cloneC w A1 c1 cs _ (Kd.C_below (kAt_of HH.out.hc) hHeld.bel) HH.out.lc (by omega)).mono ?_
            rintro e wx2x5r4 ⟨v2, rfl, hr, hb⟩
            have HR5 := Aside0.mk (hHeld.row hb hr)
            have hnew := hHeld.below hb
            clear hr hb
            go_wp2_with fail
            refine hK.out _ _ hnew ?_
            clear hK K
            refine rg_norm (a' := ?_) ?_ ?_
            rotate_left
            · simp only [Act.put, List.setIfInBounds_toArray, List.set_cons_zero, List.set_cons_succ]
              rfl
            clear hHeld
            have hHeld := hnew
            clear hnew
            refine rg_ready [7] (by kernel_rfl) (by simp) ?_
            refine rg_one (i := 7) (N := some 32) (bm 12 255) rfl rfl (by kernel_rfl) (fun K hK => ?_) rg_nil
            refine valueL_ (w1 := ?_) (v := ?_) (by rfl) rfl ?_ ?_
            rotate_left 2
            · go_simp
              constructor
              · rfl
              · rfl
            intro wx2x5x7r4 hwwx2x5x7r4
            obtain ⟨pl, hpl, hnew⟩ := hHeld.boxE #[.int .i64 op, .slice Ae l.length ce, .int .i64 (v.length : Int), .bool false] 31
            replace hnew : SB w wx2x5x7r4 _ := hwwx2x5x7r4 ▸ hnew
            try (have HR6 := (HR5.out.box #[.int .i64 op, .slice Ae l.length ce, .int .i64 (v.length : Int), .bool false] 31).swap; replace HR6 : SB w wx2x5x7r4 _ := hwwx2x5x7r4 ▸ HR6; rw [← hpl] at HR6; clear HR5; have HR5 := Aside0.mk HR6; clear HR6)
            clear hwwx2x5x7r4
            rw [← hpl]
            clear hpl
            refine hK.out _ _ hnew.drop ?_
            clear hK K
            refine rg_norm (a' := ?_) ?_ ?_
            rotate_left
            · simp only [Act.put, List.setIfInBounds_toArray, List.set_cons_zero, List.set_cons_succ]
              rfl
            refine rg_sb hnew ?_
            clear hHeld
            have hHeld := hnew
            clear hnew
            refine rg_ready [8] (by kernel_rfl) (by simp) ?_
            refine rg_one (i := 8) (N := some 33) (bm 12 511) rfl rfl (by kernel_rfl) (fun K hK => ?_) rg_nil
            have hbl := SB.boxAt pl 31 hHeld
            obtain ⟨_, _, hle⟩ := hHeld.readRow (d := Kd.int .u8) (e := 5) Ae l.length ce
            refine SB.appRowsStep (d := kX w Ae ce l) (ys := [(⟨op, l, (v.length : Int), false⟩ : S31)]) (HR5.out.toX Ae ce l) (by rfl) (.tmp 30) (.tmp 32) 26 _ _ rfl Try.underlying26 hi31 rfl (show 0 < 4 by decide) (by decide) rfl rfl (fun _ _ h => h) (lit1 hbl hle) (by omega) ?_
            rw [HCX.out]
            intro v8 wx2x5x7x8r4 hs
            obtain ⟨A8, c8, e8, _, _⟩ := hs.reads
            subst e8
            have HR8 := Aside0.mk hs
            have hnew := hs.drop
            clear hs hbl
            refine hK.out _ _ hnew ?_
            clear hK K
            refine rg_norm (a' := ?_) ?_ ?_
            rotate_left
            · simp only [Act.put, List.setIfInBounds_toArray, List.set_cons_zero, List.set_cons_succ]
              rfl
            clear hHeld
            have hHeld := hnew
            clear hnew
            refine rg_take (i := 9) (N := some 34) (v := ?_) (a' := ?_) (bm 12 1023) rfl rfl (by kernel_rfl) (fun _ _ _ h => h) hHeld (Or.inl ⟨by rfl, ?_⟩) ?_ ?_
            rotate_left
            · intro w' hw'
              have hbx := SB.boxAt w.heap.size 28 hw'
              have s0 := blk_cell hbx 0
              have s1 := blk_cell hbx 1
              have hby := SB.boxAt p8 31 hw'
              have r0 := blk_cell hby 0
              have r1 := blk_cell hby 1
              have r2 := blk_cell hby 2
              have r3 := blk_cell hby 3
              go_simp
              with_reducible rfl
            rotate_left
            · simp only [Act.put, List.setIfInBounds_toArray, List.set_cons_zero, List.set_cons_succ]
              rfl
            refine rg_ready [10] (by kernel_rfl) (by simp) ?_
            refine rg_one (i := 10) (N := none) (bm 12 2047) rfl rfl (by kernel_rfl) (fun K hK => ?_) rg_nil
            obtain ⟨x0, x1, s0, s1, y0, y1, h2, hnew⟩ := SB.write2 (w.heap.size + 1) 28 hHeld (.slice Av v.length cv) (.slice A8 csx.length c8)
            obtain ⟨_, _, _, _, _, _, h3, _⟩ := SB.write2 (w.heap.size + 1) 28 HR8.out (.slice Av v.length cv) (.slice A8 csx.length c8)
            have HZ := Aside0.mk h3
            clear h2 h3
            go_simp
            refine hK.out undef _ hnew ?_
            clear hK K
            refine rg_norm (a' := ?_) ?_ ?_
            rotate_left
            · simp only [Act.put, List.setIfInBounds_toArray, List.set_cons_zero, List.set_cons_succ]
              rfl
            clear hHeld
            have hHeld := hnew
            clear hnew
            refine rg_take (i := 11) (N := some 7) (v := ?_) (a' := ?_) (bm 12 4095) rfl rfl (by kernel_rfl) (fun _ _ _ h => h) hHeld (Or.inl ⟨by rfl, ?_⟩) ?_ ?_
            rotate_left
            · intro w' hw'
              have hbx := SB.boxAt w.heap.size 28 hw'
              have s0 := blk_cell hbx 0
              have s1 := blk_cell hbx 1
              have hby := SB.boxAt p8 31 hw'
              have r0 := blk_cell hby 0
              have r1 := blk_cell hby 1
              have r2 := blk_cell hby 2
              have r3 := blk_cell hby 3
              go_simp
              with_reducible rfl
            rotate_left
            · simp only [Act.put, List.setIfInBounds_toArray, List.set_cons_zero, List.set_cons_succ]
              rfl
            refine rg_done (by kernel_rfl) ?_
            have x9 := SB.boxOAt (w.heap.size + 1) 28 2 HZ.out
            have f0 := blk_cell x9 0
            have f1 := blk_cell x9 1
            go_wp2
            obtain ⟨hfin, _, _⟩ := (by first | exact holdOfX (HZ.out.pick [0, 2, 4]) | exact holdOfX (HZ.out.pick [0, 1, 4]) | exact holdOfX (HZ.out.pick [0, 1, 3]))
            exact bodyPost_ret (v := .tuple #[.agg #[.slice Av v.length cv, .slice A8 csx.length c8], .int .i64 0]) (by simp [results, Try.results17, go_sem, f0, f1]) rfl ⟨Av, cv, A8, c8, rfl, hfin, HZ.out.bel⟩
          refine rg_one (i := 7) (N := some 32) (bm 12 223) rfl rfl (by kernel_rfl) (fun K hK => ?_) ?_
          · skip
            refine valueL_ (w1 := ?_) (v := ?_) (by rfl) rfl ?_ ?_
            rotate_left 2
            · go_simp
              constructor
              · rfl
              · rfl
            intro wx2x7r4 hwwx2x7r4
            obtain ⟨pl, hpl, hnew⟩ := hHeld.boxE #[.int .i64 op, .slice Ae l.length ce, .int .i64 (v.length : Int), .bool false] 31
            replace hnew : SB w wx2x7r4 _ := hwwx2x7r4 ▸ hnew
            try (have HR6 := (HR5.out.box #[.int .i64 op, .slice Ae l.length ce, .int .i64 (v.length : Int), .bool false] 31).swap; replace HR6 : SB w wx2x7r4 _ := hwwx2x7r4 ▸ HR6; rw [← hpl] at HR6; clear HR5; have HR5 := Aside0.mk HR6; clear HR6)
            clear hwwx2x7r4
            rw [← hpl]
            clear hpl
            refine hK.out _ _ hnew.drop ?_
            clear hK K
            refine rg_norm (a' := ?_) ?_ ?_
            rotate_left
            · simp only [Act.put, List.setIfInBounds_toArray, List.set_cons_zero, List.set_cons_succ]
              rfl
            refine rg_sb hnew ?_
            clear hHeld
            have hHeld := hnew
            clear hnew
            refine rg_ready [5] (by kernel_rfl) (by simp) ?_
            refine rg_one (i := 5) (N := some 30) (bm 12 255) rfl rfl (by kernel_rfl) (fun K hK => ?_) rg_nil
            go_simp
            go_at_call 38
            with_reducible refine (cloneC w A1 c1 cs _ (Kd.C_below (kAt_of HH.out.hc) hHeld.bel) HH.out.lc (by omega)).mono ?_
            rintro e wx2x7x5r4 ⟨v2, rfl, hr, hb⟩
            have HR5 := Aside0.mk (hHeld.row hb hr)
            have hnew := hHeld.below hb
            clear hr hb
            go_wp2_with fail
            refine hK.out _ _ hnew ?_
            clear hK K
            refine rg_norm (a' := ?_) ?_ ?_
            rotate_left
            · simp only [Act.put, List.setIfInBounds_toArray, List.set_cons_zero, List.set_cons_succ]
              rfl
            clear hHeld
            have hHeld := hnew
            clear hnew
            refine rg_ready [8] (by kernel_rfl) (by simp) ?_
            refine rg_one (i := 8) (N := some 33) (bm 12 511) rfl rfl (by kernel_rfl) (fun K hK => ?_) rg_nil
            have hbl := SB.boxAt pl 31 hHeld
            obtain ⟨_, _, hle⟩ := hHeld.readRow (d := Kd.int .u8) (e := 5) Ae l.length ce
            refine SB.appRowsStep (d := kX w Ae ce l) (ys := [(⟨op, l, (v.length : Int), false⟩ : S31)]) (HR5.out.toX Ae ce l) (by rfl) (.tmp 30) (.tmp 32) 26 _ _ rfl Try.underlying26 hi31 rfl (show 0 < 4 by decide) (by decide) rfl rfl (fun _ _ h => h) (lit1 hbl hle) (by omega) ?_
            rw [HCX.out]
            intro v8 wx2x7x5x8r4 hs
            obtain ⟨A8, c8, e8, _, _⟩ := hs.reads
            subst e8
            have HR8 := Aside0.mk hs
            have hnew := hs.drop
            clear hs hbl
            refine hK.out _ _ hnew ?_
            clear hK K
            refine rg_norm (a' := ?_) ?_ ?_
            rotate_left
            · simp only [Act.put, List.setIfInBounds_toArray, List.set_cons_zero, List.set_cons_succ]
              rfl
            clear hHeld
            have hHeld := hnew
            clear hnew
            refine rg_take (i := 9) (N := some 34) (v := ?_) (a' := ?_) (bm 12 1023) rfl rfl (by kernel_rfl) (fun _ _ _ h => h) hHeld (Or.inl ⟨by rfl, ?_⟩) ?_ ?_
            rotate_left
            · intro w' hw'
              have hbx := SB.boxAt w.heap.size 28 hw'
              have s0 := blk_cell hbx 0
              have s1 := blk_cell hbx 1
              have hby := SB.boxAt p8 31 hw'
              have r0 := blk_cell hby 0
              have r1 := blk_cell hby 1
              have r2 := blk_cell hby 2
              have r3 := blk_cell hby 3
              go_simp
              with_reducible rfl
            rotate_left
            · simp only [Act.put, List.setIfInBounds_toArray, List.set_cons_zero, List.set_cons_succ]
              rfl
            refine rg_ready [10] (by kernel_rfl) (by simp) ?_
            refine rg_one (i := 10) (N := none) (bm 12 2047) rfl rfl (by kernel_rfl) (fun K hK => ?_) rg_nil
            obtain ⟨x0, x1, s0, s1, y0, y1, h2, hnew⟩ := SB.write2 (w.heap.size + 1) 28 hHeld (.slice Av v.length cv) (.slice A8 csx.length c8)
            obtain ⟨_, _, _, _, _, _, h3, _⟩ := SB.write2 (w.heap.size + 1) 28 HR8.out (.slice Av v.length cv) (.slice A8 csx.length c8)
            have HZ := Aside0.mk h3
            clear h2 h3
            go_simp
            refine hK.out undef _ hnew ?_
            clear hK K
            refine rg_norm (a' := ?_) ?_ ?_
            rotate_left
            · simp only [Act.put, List.setIfInBounds_toArray, List.set_cons_zero, List.set_cons_succ]
              rfl
            clear hHeld
            have hHeld := hnew
            clear hnew
            refine rg_take (i := 11) (N := some 7) (v := ?_) (a' := ?_) (bm 12 4095) rfl rfl (by kernel_rfl) (fun _ _ _ h => h) hHeld (Or.inl ⟨by rfl, ?_⟩) ?_ ?_
            rotate_left
            · intro w' hw'
              have hbx := SB.boxAt w.heap.size 28 hw'
              have s0 := blk_cell hbx 0
              have s1 := blk_cell hbx 1
              have hby := SB.boxAt p8 31 hw'
              have r0 := blk_cell hby 0
              have r1 := blk_cell hby 1
              have r2 := blk_cell hby 2
              have r3 := blk_cell hby 3
              go_simp
              with_reducible rfl
            rotate_left
            · simp only [Act.put, List.setIfInBounds_toArray, List.set_cons_zero, List.set_cons_succ]
              rfl
            refine rg_done (by kernel_rfl) ?_
            have x9 := SB.boxOAt (w.heap.size + 1) 28 2 HZ.out
            have f0 := blk_cell x9 0
            have f1 := blk_cell x9 1
            go_wp2
            obtain ⟨hfin, _, _⟩ := (by first | exact holdOfX (HZ.out.pick [0, 2, 4]) | exact holdOfX (HZ.out.pick [0, 1, 4]) | exact holdOfX (HZ.out.pick [0, 1, 3]))
            exact bodyPost_ret (v := .tuple #[.agg #[.slice Av v.length cv, .slice A8 csx.length c8], .int .i64 0]) (by simp [results, Try.results17, go_sem, f0, f1]) rfl ⟨Av, cv, A8, c8, rfl, hfin, HZ.out.bel⟩
          exact rg_nil
        refine rg_one (i := 7) (N := some 32) (bm 12 219) rfl rfl (by kernel_rfl) (fun K hK => ?_) ?_
        · skip
          refine valueL_ (w1 := ?_) (v := ?_) (by rfl) rfl ?_ ?_
          rotate_left 2
          · go_simp
            constructor
            · rfl
            · rfl
          intro wx7r4 hwwx7r4
          obtain ⟨pl, hpl, hnew⟩ := hHeld.boxE #[.int .i64 op, .slice Ae l.length ce, .int .i64 (v.length : Int), .bool false] 31
          replace hnew : SB w wx7r4 _ := hwwx7r4 ▸ hnew
          try (have HR6 := (HR5.out.box #[.int .i64 op, .slice Ae l.length ce, .int .i64 (v.length : Int), .bool false] 31).swap; replace HR6 : SB w wx7r4 _ := hwwx7r4 ▸ HR6; rw [← hpl] at HR6; clear HR5; have HR5 := Aside0.mk HR6; clear HR6)
          clear hwwx7r4
          rw [← hpl]
          clear hpl
          refine hK.out _ _ hnew.drop ?_
          clear hK K
          refine rg_norm (a' := ?_) ?_ ?_
          rotate_left
          · simp only [Act.put, List.setIfInBounds_toArray, List.set_cons_zero, List.set_cons_succ]
            rfl
          refine rg_sb hnew ?_
          clear hHeld
          have hHeld := hnew
          clear hnew
          refine rg_ready [2] (by kernel_rfl) (by simp) ?_
          refine rg_one (i := 2) (N := some 27) (bm 12 223) rfl rfl (by kernel_rfl) (fun K hK => ?_) rg_nil
          go_simp
          go_at_call 39
          with_reducible refine (bytes_Clone.calls A0 c0 v v _ (Kd.C_below HH.out.hv hHeld.bel) HH.out.lv hclV).mono ?_
          rintro e wx7x2r4 ⟨v1, rfl, hr, hb⟩
          obtain ⟨Av, cv, rfl⟩ := Kd.R_slice hr
          have hnew := hHeld.row hb hr
          clear hr hb
          go_wp2_with fail
          refine hK.out _ _ hnew.drop ?_
          clear hK K
          refine rg_norm (a' := ?_) ?_ ?_
          rotate_left
          · simp only [Act.put, List.setIfInBounds_toArray, List.set_cons_zero, List.set_cons_succ]
            rfl
          refine rg_sb hnew ?_
          clear hHeld
          have hHeld := hnew
          clear hnew
          refine rg_ready [5] (by kernel_rfl) (by simp) ?_
          refine rg_one (i := 5) (N := some 30) (bm 12 255) rfl rfl (by kernel_rfl) (fun K hK => ?_) rg_nil
          go_simp
          go_at_call 38
          with_reducible refine (cloneC w A1 c1 cs _ (Kd.C_below (kAt_of HH.out.hc) hHeld.bel) HH.out.lc (by omega)).mono ?_
          rintro e wx7x2x5r4 ⟨v2, rfl, hr, hb⟩
          have HR5 := Aside0.mk (hHeld.row hb hr)
          have hnew := hHeld.below hb
          clear hr hb
          go_wp2_with fail
          refine hK.out _ _ hnew ?_
          clear hK K
          refine rg_norm (a' := ?_) ?_ ?_
          rotate_left
          · simp only [Act.put, List.setIfInBounds_toArray, List.set_cons_zero, List.set_cons_succ]
            rfl
          clear hHeld
          have hHeld := hnew
          clear hnew
          refine rg_ready [8] (by kernel_rfl) (by simp) ?_
          refine rg_one (i := 8) (N := some 33) (bm 12 511) rfl rfl (by kernel_rfl) (fun K hK => ?_) rg_nil
          have hbl := SB.boxAt pl 31 hHeld
          obtain ⟨_, _, hle⟩ := hHeld.readRow (d := Kd.int .u8) (e := 5) Ae l.length ce
          refine SB.appRowsStep (d := kX w Ae ce l) (ys := [(⟨op, l, (v.length : Int), false⟩ : S31)]) (HR5.out.toX Ae ce l) (by rfl) (.tmp 30) (.tmp 32) 26 _ _ rfl Try.underlying26 hi31 rfl (show 0 < 4 by decide) (by decide) rfl rfl (fun _ _ h => h) (lit1 hbl hle) (by omega) ?_
          rw [HCX.out]
          intro v8 wx7x2x5x8r4 hs
          obtain ⟨A8, c8, e8, _, _⟩ := hs.reads
          subst e8
          have HR8 := Aside0.mk hs
          have hnew := hs.drop
          clear hs hbl
          refine hK.out _ _ hnew ?_
          clear hK K
          refine rg_norm (a' := ?_) ?_ ?_
          rotate_left
          · simp only [Act.put, List.setIfInBounds_toArray, List.set_cons_zero, List.set_cons_succ]
            rfl
          clear hHeld
          have hHeld := hnew
          clear hnew
          refine rg_take (i := 9) (N := some 34) (v := ?_) (a' := ?_) (bm 12 1023) rfl rfl (by kernel_rfl) (fun _ _ _ h => h) hHeld (Or.inl ⟨by rfl, ?_⟩) ?_ ?_
          rotate_left
          · intro w' hw'
            have hbx := SB.boxAt w.heap.size 28 hw'
            have s0 := blk_cell hbx 0
            have s1 := blk_cell hbx 1
            have hby := SB.boxAt p8 31 hw'
            have r0 := blk_cell hby 0
            have r1 := blk_cell hby 1
            have r2 := blk_cell hby 2
            have r3 := blk_cell hby 3
            go_simp
            with_reducible rfl
          rotate_left
          · simp only [Act.put, List.setIfInBounds_toArray, List.set_cons_zero, List.set_cons_succ]
            rfl
          refine rg_ready [10] (by kernel_rfl) (by simp) ?_
          refine rg_one (i := 10) (N := none) (bm 12 2047) rfl rfl (by kernel_rfl) (fun K hK => ?_) rg_nil
          obtain ⟨x0, x1, s0, s1, y0, y1, h2, hnew⟩ := SB.write2 (w.heap.size + 1) 28 hHeld (.slice Av v.length cv) (.slice A8 csx.length c8)
          obtain ⟨_, _, _, _, _, _, h3, _⟩ := SB.write2 (w.heap.size + 1) 28 HR8.out (.slice Av v.length cv) (.slice A8 csx.length c8)
          have HZ := Aside0.mk h3
          clear h2 h3
          go_simp
          refine hK.out undef _ hnew ?_
          clear hK K
          refine rg_norm (a' := ?_) ?_ ?_
          rotate_left
          · simp only [Act.put, List.setIfInBounds_toArray, List.set_cons_zero, List.set_cons_succ]
            rfl
          clear hHeld
          have hHeld := hnew
          clear hnew
          refine rg_take (i := 11) (N := some 7) (v := ?_) (a' := ?_) (bm 12 4095) rfl rfl (by kernel_rfl) (fun _ _ _ h => h) hHeld (Or.inl ⟨by rfl, ?_⟩) ?_ ?_
          rotate_left
          · intro w' hw'
            have hbx := SB.boxAt w.heap.size 28 hw'
            have s0 := blk_cell hbx 0
            have s1 := blk_cell hbx 1
            have hby := SB.boxAt p8 31 hw'
            have r0 := blk_cell hby 0
            have r1 := blk_cell hby 1
            have r2 := blk_cell hby 2
            have r3 := blk_cell hby 3
            go_simp
            with_reducible rfl
          rotate_left
          · simp only [Act.put, List.setIfInBounds_toArray, List.set_cons_zero, List.set_cons_succ]
            rfl
          refine rg_done (by kernel_rfl) ?_
          have x9 := SB.boxOAt (w.heap.size + 1) 28 2 HZ.out
          have f0 := blk_cell x9 0
          have f1 := blk_cell x9 1
          go_wp2
          obtain ⟨hfin, _, _⟩ := (by first | exact holdOfX (HZ.out.pick [0, 2, 4]) | exact holdOfX (HZ.out.pick [0, 1, 4]) | exact holdOfX (HZ.out.pick [0, 1, 3]))
          exact bodyPost_ret (v := .tuple #[.agg #[.slice Av v.length cv, .slice A8 csx.length c8], .int .i64 0]) (by simp [results, Try.results17, go_sem, f0, f1]) rfl ⟨Av, cv, A8, c8, rfl, hfin, HZ.out.bel⟩
        exact rg_nil
      exact rg_nil
end Go.Proofs.Ytagblobimoedcaa.G
