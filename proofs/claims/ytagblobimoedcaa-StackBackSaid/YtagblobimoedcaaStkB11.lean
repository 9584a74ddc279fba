/- StackBack: a case of its walk. -/
import Derived.Test.YtagblobimoedcaaStkR
namespace Go.Proofs.Ytagblobimoedcaa.G
open Go.RowKit Go.Proofs.YtagblobimoedcaaW.PrintWords Go.Proofs.YtagblobimoedcaaW.PrintLast Go.Proofs.YtagblobimoedcaaW.PrintMore
set_option linter.unusedVariables false
set_option linter.unusedSimpArgs false
set_option maxHeartbeats 8000000 in
set_option maxRecDepth 100000 in
theorem back11 (A : Option Addr) (c : Nat) (l : List S47) (Am : Option Addr) (cm : Nat) (m : List Int) (op : Int) (w : World) (hC : Kd.C k47 w A l.length l) (hc : l.length ≤ c) (hCm : Kd.C (Kd.int .u8) w Am m.length m) (hcm : m.length ≤ cm)
    (hb : fewB l = true) (hml : m.length ≤ 20) (ht : m.all stTy_okT = true) (hne : (gAll l).2 ≠ []) (hen : ∃ a r, m = a :: r ∧ a ≠ 0) :
    Calls Try.prog 4 #[.slice A l.length c, .slice Am m.length cm, .int .i64 op] w fun e w' => e = .returned (.bool true) ∧ Below w.heap.size w w' := by
  have HC := Aside0.mk hC
  have HCM := Aside0.mk hCm
  clear hC
  have HF := Aside0.mk (fun (W : World) (hW : Below w.heap.size w W) => hb ▸ fewS (Kd.C_below HC.out hW) hc)
  have hf := (fewB_iff l).1 hb
  have HG := Aside0.mk (fun (W : World) (hW : Below w.heap.size w W) => growns A c l W (Kd.C_below HC.out hW) hf)
  have hm := modest_all hf
  have hs := sane_all l
  have hcs := gAll_len hf l.length (Nat.le_refl _)
  rw [List.take_length] at hcs
  have hl100 := hf.1
  obtain ⟨v, cs, hvc⟩ : ∃ v cs, gAll l = (v, cs) := ⟨_, _, rfl⟩
  rw [hvc] at HG hm hs hne hcs
  simp only at HG hm hs hne hcs
  have d20 : decide ((20 : Int) < (m.length : Int)) = false := decide_eq_false (by omega)
  have d20' : decide (20 < m.length) = false := decide_eq_false (by omega)
  have hbe : backEnd m = m.take 1 := by
    obtain ⟨a, r, rfl, ha⟩ := hen
    simp [backEnd, ha]
  have hm0 : (m.length : Int) > 0 := by obtain ⟨a, r, rfl, _⟩ := hen; first | (simp; done) | (simp; omega)
  have hm1 : 1 ≤ m.length := by omega
  have h1en : (backEnd m).length = 1 := by rw [hbe, List.length_take]; omega
  have HCE := Aside0.mk (show ∀ W, Below w.heap.size w W → Kd.C (Kd.int .u8) W Am 1 (backEnd m) from fun W hW => by have := C_take (Kd.C_below hCm hW) 1; rw [← hbe, h1en] at this; exact this)
  obtain ⟨m0, ba, oa, hm0c, hadm, hm0n⟩ : ∃ m0 ba oa, w.cell? ⟨ba, oa, none⟩ = some (.int .u8 m0) ∧ Am = some ⟨ba, oa, none⟩ ∧ m0 ≠ 0 := by
    obtain ⟨a, r, rfl, ha⟩ := hen
    obtain ⟨ad, e1, hx⟩ := Kd.at_int hCm 0 (by omega) (by first | (simp; done) | (simp; omega))
    have e0 : ad.add (0 : Int).toNat = ad := by unfold Addr.add; rfl
    rw [e0] at hx
    obtain ⟨b, o, rfl⟩ := addr_plain hx
    exact ⟨a, b, o, hx, e1, ha⟩
  have hm0b : (m0 != 0) = true := bne_iff_ne.mpr hm0n
  have hadl := World.block_lt_of_cell? w _ hm0c
  have HM0 := Aside0.mk (show ∀ W, Below w.heap.size w W → W.cell? ⟨ba, oa, none⟩ = some (.int .u8 m0) from fun W hW => (hW.cell hadl).trans hm0c)
  have d0 : decide ((0 : Int) < (m.length : Int)) = true := decide_eq_true (by omega)
  have d0' : decide (0 < m.length) = true := decide_eq_true (by omega)
  have qz := eq_true (show (0 : Int) < (m.length : Int) by omega)
  have qz' := eq_true (show 0 < m.length by omega)
  have hcut : ∀ W, (Instr.slice 25 (.slice Am m.length cm) none (some (.int .i64 1)) none).run Try.prog W = .ok (.slice Am 1 cm) W := fun W => cut25 Am m.length cm 1 hm1 hcm W
  obtain ⟨hel, het⟩ := backEnd_left ht
  have hp1 : sPush v cs m = (v ++ m, cs, 0) := by unfold sPush; rw [if_pos ⟨hs, ht⟩]
  have hop := back_open op hs hel
  have hpe := back_push op hs hel het
  have hcl := back_close op hs hel het
  have hwa := back_want hs hne ht
  obtain ⟨en, hen2⟩ : ∃ en, backEnd m = en := ⟨_, rfl⟩
  rw [hen2] at hop hpe hcl hel het h1en HCE
  obtain ⟨vm, hvm⟩ : ∃ vm, v ++ m = vm := ⟨_, rfl⟩
  obtain ⟨co, hco⟩ : ∃ co, cs ++ [bNew v op en] = co := ⟨_, rfl⟩
  obtain ⟨ve, hve⟩ : ∃ ve, v ++ en = ve := ⟨_, rfl⟩
  have hmv : modest vm cs := ⟨by rw [← hvm, List.length_append]; omega, hm.2⟩
  have hlen : en.length ≤ 1 := kLeft_len hel
  have hmo : modest v co := ⟨hm.1, by rw [← hco, List.length_append, List.length_singleton]; omega⟩
  have hme : modest ve co := ⟨by rw [← hve, List.length_append]; omega, hmo.2⟩
  rw [hvm] at hp1 hwa
  rw [hco] at hop hpe hcl
  rw [hve] at hpe hcl
  have HPU := Aside0.mk (fun (W : World) (A0 A1 : Option Addr) (c0 c1 : Nat) (h : HoldS W A0 c0 A1 c1 v cs) (hW : Below w.heap.size w W) => stkPush h (Kd.C_below HCM.out hW) hcm hm (by omega : m.length ≤ 400000000))
  rw [hp1] at HPU
  have HWA := Aside0.mk (fun (W : World) (A0 A1 : Option Addr) (c0 c1 : Nat) (h : HoldS W A0 c0 A1 c1 vm cs) (hW : Below w.heap.size w W) => stkWantS h (Kd.C_below HCM.out hW) (cl := cm) hmv (by omega))
  rw [hwa] at HWA
  have HOP := Aside0.mk (show ∀ (W : World) (A0 A1 : Option Addr) (c0 c1 : Nat), HoldS W A0 c0 A1 c1 v cs → Below w.heap.size w W → Calls Try.prog 17 #[.agg #[.slice A0 v.length c0, .slice A1 cs.length c1], .int .i64 op, .slice Am 1 cm] W fun e w' => ∃ B0 d0 B1 d1, e = .returned (.tuple #[.agg #[.slice B0 v.length d0, .slice B1 co.length d1], .int .i64 0]) ∧ HoldS w' B0 d0 B1 d1 v co ∧ Below W.heap.size W w' from fun W A0 A1 c0 c1 h hW => by
    have := stkOpen h op (l := en) (by rw [h1en]; exact HCE.out W hW) (cl := cm) (by omega) hm (by omega)
    rw [hop, h1en] at this
    exact this)
  have HPE := Aside0.mk (show ∀ (W : World) (A0 A1 : Option Addr) (c0 c1 : Nat), HoldS W A0 c0 A1 c1 v co → Below w.heap.size w W → Calls Try.prog 13 #[.agg #[.slice A0 v.length c0, .slice A1 co.length c1], .slice Am 1 cm] W fun e w' => ∃ B0 d0 B1 d1, e = .returned (.tuple #[.agg #[.slice B0 ve.length d0, .slice B1 co.length d1], .int .i64 0]) ∧ HoldS w' B0 d0 B1 d1 ve co ∧ Below W.heap.size W w' from fun W A0 A1 c0 c1 h hW => by
    have := stkPush h (l := en) (by rw [h1en]; exact HCE.out W hW) (cl := cm) (by omega) hmo (by omega)
    rw [hpe, h1en] at this
    exact this)
  have HCV := Aside0.mk (show ∀ W, Below w.heap.size w W → (convert 25 9 (.slice Am 1 cm)).run Try.prog W = .ok (.string (strOfNums en)) W from fun W hW => by have := conv25 (c := cm) (l := en) (by rw [h1en]; exact HCE.out W hW); rw [h1en] at this; exact this)
  have HCL := Aside0.mk (show ∀ (W : World) (A0 A1 : Option Addr) (c0 c1 : Nat), HoldS W A0 c0 A1 c1 ve co → Calls Try.prog 18 #[.agg #[.slice A0 ve.length c0, .slice A1 co.length c1]] W fun e w' => ∃ B0 d0 B1 d1 Be ce, e = .returned (.tuple #[.agg #[.slice B0 v.length d0, .slice B1 cs.length d1], .agg #[.int .i64 op, .slice Be en.length ce, .int .i64 (v.length : Int), .bool false], .int .i64 0]) ∧ HoldS w' B0 d0 B1 d1 v cs ∧ Kd.C (Kd.int .u8) w' Be en.length en ∧ en.length ≤ ce ∧ Below W.heap.size W w' from fun W A0 A1 c0 c1 h => by
    have := stkClose h hme
    rw [hcl] at this
    exact this)
  have hcsl : cs.length ≤ 1000000 := by omega
  have hmcs := hm.2
  have dn : decide ((0 : Int) < (cs.length : Int)) = true := decide_eq_true (by have := List.length_pos_iff.2 hne; omega)
  have dn' : decide (0 < cs.length) = true := decide_eq_true (List.length_pos_iff.2 hne)
  have HTH := Aside0.mk (fun (W : World) (A0 A1 : Option Addr) (c0 c1 : Nat) (h : HoldS W A0 c0 A1 c1 v cs) => theirsS h hcsl)
  have HSM := Aside0.mk (fun (W : World) (A0 A1 B0 B1 : Option Addr) (c0 c1 d0 d1 : Nat) (h : HoldT W A0 c0 A1 c1 v (cs.map toT)) (g : HoldT W B0 d0 B1 d1 v (cs.map toT)) => sameS h g (by rw [List.length_map]; exact hcsl))
  obtain ⟨ts, hts⟩ : ∃ ts, cs.map toT = ts := ⟨_, rfl⟩
  rw [hts] at HTH HSM
  clear hb hf hs hvc hml ht hne hen hp1 hop hpe hcl hel het hvm hco hve hmv hlen hmo hme hm hcs hl100 hts hcsl hCm hen2 hbe hm0 hm1 h1en hm0c hm0n hwa
  subst hadm
  go_enter Try.func4, Try.ntmps4
  go_wp2_with (first
    | (go_at_call 9; (with_reducible refine (awakeS _).mono ?_); rintro e w1 ⟨rfl, hb⟩; have HB := Aside0.mk hb; clear hb)
    | (go_at_call 10; (with_reducible refine (HF.out _ HB.out).mono ?_); rintro e w2 ⟨rfl, hb⟩; have HB2 := Aside0.mk (below_then HB.out HB.out.size hb); clear hb)
    | (go_at_call 11; (with_reducible refine (HG.out _ HB2.out).mono ?_); rintro e w3 ⟨A0, c0, A1, c1, rfl, h, hb⟩; have HW3 := Aside0.mk (((SB.start w).below (below_then HB2.out HB2.out.size hb)).box #[.slice A0 v.length c0, .slice A1 cs.length c1] 28); have HH3 := Aside0.mk (h.below (below_alloc (Below.refl _ _) (.cells #[.slice A0 v.length c0, .slice A1 cs.length c1] 28))); clear h hb)
    | (go_at_call 13; (with_reducible refine (HPU.out _ _ _ _ _ HH3.out HW3.out.bel).mono ?_); rintro e w4 ⟨B0, d0, B1, d1, rfl, h, hb⟩; have HW4 := Aside0.mk ((HW3.out.below hb).box #[.slice B0 vm.length d0, .slice B1 cs.length d1] 28); have HH4 := Aside0.mk ((HH3.out.below hb).below (below_alloc (Below.refl _ _) (.cells #[.slice B0 vm.length d0, .slice B1 cs.length d1] 28))); have HA4 := Aside0.mk (h.below (below_alloc (Below.refl _ _) (.cells #[.slice B0 vm.length d0, .slice B1 cs.length d1] 28))); clear h hb; have x1 := SB.boxAt w3.heap.size 28 HW4.out; have k0 := blk_cell x1 0; have k1 := blk_cell x1 1; have hl3 := blk_lt x1; rw [World.size_alloc] at hl3; clear x1; have hmc := HM0.out _ HW4.out.bel; have hbl := Nat.lt_of_lt_of_le hadl HW4.out.size; rw [World.size_alloc] at hbl)
    | (go_at_call 14; (with_reducible refine (HWA.out _ _ _ _ _ HA4.out HW4.out.bel).mono ?_); rintro e w5 ⟨C0, f0, C1, f1, rfl, h, hb⟩; have HW5 := Aside0.mk ((HW4.out.below hb).box #[.slice C0 v.length f0, .slice C1 cs.length f1] 28); have HH5 := Aside0.mk ((HH4.out.below hb).below (below_alloc (Below.refl _ _) (.cells #[.slice C0 v.length f0, .slice C1 cs.length f1] 28))); have HB5 := Aside0.mk (h.below (below_alloc (Below.refl _ _) (.cells #[.slice C0 v.length f0, .slice C1 cs.length f1] 28))); clear h hb; have x1 := SB.boxAt w3.heap.size 28 HW5.out; have k0 := blk_cell x1 0; have k1 := blk_cell x1 1; clear x1))
  have hS10 : SB w (w5.alloc (.cells #[.slice C0 v.length f0, .slice C1 cs.length f1] 28)).drew [Box w5.heap.size #[.slice C0 v.length f0, .slice C1 cs.length f1] 28, Box w3.heap.size #[.slice A0 v.length c0, .slice A1 cs.length c1] 28] ∧ HoldS (w5.alloc (.cells #[.slice C0 v.length f0, .slice C1 cs.length f1] 28)).drew A0 c0 A1 c1 v cs ∧ HoldS (w5.alloc (.cells #[.slice C0 v.length f0, .slice C1 cs.length f1] 28)).drew C0 f0 C1 f1 v cs := ⟨HW5.out.drew.pick [0, 2], HH5.out.below (below_drew (Below.refl _ _)), HB5.out.below (below_drew (Below.refl _ _))⟩
  refine rg_startL (n := 10) (S := fun w' => SB w w' [Box w5.heap.size #[.slice C0 v.length f0, .slice C1 cs.length f1] 28, Box w3.heap.size #[.slice A0 v.length c0, .slice A1 cs.length c1] 28] ∧ HoldS w' A0 c0 A1 c1 v cs ∧ HoldS w' C0 f0 C1 f1 v cs) (bm 10 0) (by kernel_rfl) rfl (by kernel_rfl) (hS10) (fun wd hwd hHeld => ?_)
  refine rg_take (i := 0) (N := some 56) (v := ?_) (a' := ?_) (bm 10 1) rfl rfl (by kernel_rfl) (fun _ _ _ h => h) hHeld (Or.inl ⟨by rfl, ?_⟩) ?_ ?_
  rotate_left
  · intro w' hw'
    have x1 := SB.boxAt w5.heap.size 28 hw'.1
    have s0 := blk_cell x1 0
    have s1 := blk_cell x1 1
    have x2 := SB.boxAt w3.heap.size 28 hw'.1
    have r0 := blk_cell x2 0
    have r1 := blk_cell x2 1
    go_simp
    with_reducible rfl
  rotate_left
  · simp only [Act.put, List.setIfInBounds_toArray, List.set_cons_zero, List.set_cons_succ]
    rfl
  refine rg_take (i := 1) (N := some 57) (v := ?_) (a' := ?_) (bm 10 3) rfl rfl (by kernel_rfl) (fun _ _ _ h => h) hHeld (Or.inl ⟨by rfl, ?_⟩) ?_ ?_
  rotate_left
  · intro w' hw'
    have x1 := SB.boxAt w5.heap.size 28 hw'.1
    have s0 := blk_cell x1 0
    have s1 := blk_cell x1 1
    have x2 := SB.boxAt w3.heap.size 28 hw'.1
    have r0 := blk_cell x2 0
    have r1 := blk_cell x2 1
    go_simp
    with_reducible rfl
  rotate_left
  · simp only [Act.put, List.setIfInBounds_toArray, List.set_cons_zero, List.set_cons_succ]
    rfl
  refine rg_take (i := 2) (N := some 58) (v := ?_) (a' := ?_) (bm 10 7) rfl rfl (by kernel_rfl) (fun _ _ _ h => h) hHeld (Or.inl ⟨by rfl, ?_⟩) ?_ ?_
  rotate_left
  · intro w' hw'
    have x1 := SB.boxAt w5.heap.size 28 hw'.1
    have s0 := blk_cell x1 0
    have s1 := blk_cell x1 1
    have x2 := SB.boxAt w3.heap.size 28 hw'.1
    have r0 := blk_cell x2 0
    have r1 := blk_cell x2 1
    go_simp
    with_reducible rfl
  rotate_left
  · simp only [Act.put, List.setIfInBounds_toArray, List.set_cons_zero, List.set_cons_succ]
    rfl
  refine rg_take (i := 3) (N := some 59) (v := ?_) (a' := ?_) (bm 10 15) rfl rfl (by kernel_rfl) (fun _ _ _ h => h) hHeld (Or.inl ⟨by rfl, ?_⟩) ?_ ?_
  rotate_left
  · intro w' hw'
    have x1 := SB.boxAt w5.heap.size 28 hw'.1
    have s0 := blk_cell x1 0
    have s1 := blk_cell x1 1
    have x2 := SB.boxAt w3.heap.size 28 hw'.1
    have r0 := blk_cell x2 0
    have r1 := blk_cell x2 1
    go_simp
    with_reducible rfl
  rotate_left
  · simp only [Act.put, List.setIfInBounds_toArray, List.set_cons_zero, List.set_cons_succ]
    rfl
  refine rg_take (i := 5) (N := some 61) (v := ?_) (a' := ?_) (bm 10 47) rfl rfl (by kernel_rfl) (fun _ _ _ h => h) hHeld (Or.inl ⟨by rfl, ?_⟩) ?_ ?_
  rotate_left
  · intro w' hw'
    have x1 := SB.boxAt w5.heap.size 28 hw'.1
    have s0 := blk_cell x1 0
    have s1 := blk_cell x1 1
    have x2 := SB.boxAt w3.heap.size 28 hw'.1
    have r0 := blk_cell x2 0
    have r1 := blk_cell x2 1
    go_simp
    with_reducible rfl
  rotate_left
  · simp only [Act.put, List.setIfInBounds_toArray, List.set_cons_zero, List.set_cons_succ]
    rfl
  refine rg_ready [4] (by kernel_rfl) (by simp) ?_
  refine rg_one (i := 4) (N := some 60) (bm 10 63) rfl rfl (by kernel_rfl) (fun K hK => ?_) rg_nil
  go_simp
  go_at_call 16
  with_reducible refine (HTH.out _ _ _ _ _ hHeld.2.2).mono ?_
  rintro e wx4r10 ⟨T0, t0, rfl, hT, hb⟩
  have HT4 := Aside0.mk hT
  have hnew := And.intro (hHeld.1.below hb) (And.intro (hHeld.2.1.below hb) (hHeld.2.2.below hb))
  clear hT hb
  go_wp2_with fail
  refine hK.out _ _ hnew ?_
  clear hK K
  refine rg_norm (a' := ?_) ?_ ?_
  rotate_left
  · simp only [Act.put, List.setIfInBounds_toArray, List.set_cons_zero, List.set_cons_succ]
    rfl
  clear hHeld
  have hHeld := hnew
  clear hnew
  refine rg_ready [6] (by kernel_rfl) (by simp) ?_
  refine rg_one (i := 6) (N := some 62) (bm 10 127) rfl rfl (by kernel_rfl) (fun K hK => ?_) rg_nil
  go_simp
  go_at_call 16
  with_reducible refine (HTH.out _ _ _ _ _ hHeld.2.1).mono ?_
  rintro e wx4x6r10 ⟨T1, t1, rfl, hT, hb⟩
  have HT6 := Aside0.mk hT
  have HT46 := Aside0.mk (HT4.out.below hb)
  have hnew := And.intro (hHeld.1.below hb) (And.intro (hHeld.2.1.below hb) (hHeld.2.2.below hb))
  clear hT hb
  go_wp2_with fail
  refine hK.out _ _ hnew ?_
  clear hK K
  refine rg_norm (a' := ?_) ?_ ?_
  rotate_left
  · simp only [Act.put, List.setIfInBounds_toArray, List.set_cons_zero, List.set_cons_succ]
    rfl
  clear hHeld
  have hHeld := hnew
  clear hnew
  refine rg_ready [7] (by kernel_rfl) (by simp) ?_
  refine rg_one (i := 7) (N := some 63) (bm 10 255) rfl rfl (by kernel_rfl) (fun K hK => ?_) rg_nil
  go_simp
  go_at_call 15
  with_reducible refine (HSM.out _ _ _ _ _ _ _ _ _ HT46.out HT6.out).mono ?_
  rintro e wx4x6x7r10 ⟨rfl, hb⟩
  have hnew := And.intro (hHeld.1.below hb) (And.intro (hHeld.2.1.below hb) (hHeld.2.2.below hb))
  clear hb
  go_wp2_with fail
  obtain ⟨w6, hw6⟩ : ∃ w6, wx4x6x7r10 = w6 := ⟨_, rfl⟩
  refine hK.out _ _ hnew ?_
  clear hK K
  refine rg_norm (a' := ?_) ?_ ?_
  rotate_left
  · simp only [Act.put, List.setIfInBounds_toArray, List.set_cons_zero, List.set_cons_succ]
    rfl
  clear hHeld
  have hHeld := hnew
  clear hnew
  refine rg_take (i := 8) (N := some 64) (v := ?_) (a' := ?_) (bm 10 511) rfl rfl (by kernel_rfl) (fun _ _ _ h => h) hHeld (Or.inl ⟨by rfl, ?_⟩) ?_ ?_
  rotate_left
  · intro w' hw'
    have x1 := SB.boxAt w5.heap.size 28 hw'.1
    have s0 := blk_cell x1 0
    have s1 := blk_cell x1 1
    have x2 := SB.boxAt w3.heap.size 28 hw'.1
    have r0 := blk_cell x2 0
    have r1 := blk_cell x2 1
    go_simp
    with_reducible rfl
  rotate_left
  · simp only [Act.put, List.setIfInBounds_toArray, List.set_cons_zero, List.set_cons_succ]
    rfl
  refine rg_take (i := 9) (N := some 65) (v := ?_) (a' := ?_) (bm 10 1023) rfl rfl (by kernel_rfl) (fun _ _ _ h => h) hHeld (Or.inl ⟨by rfl, ?_⟩) ?_ ?_
  rotate_left
  · intro w' hw'
    have x1 := SB.boxAt w5.heap.size 28 hw'.1
    have s0 := blk_cell x1 0
    have s1 := blk_cell x1 1
    have x2 := SB.boxAt w3.heap.size 28 hw'.1
    have r0 := blk_cell x2 0
    have r1 := blk_cell x2 1
    go_simp
    with_reducible rfl
  rotate_left
  · simp only [Act.put, List.setIfInBounds_toArray, List.set_cons_zero, List.set_cons_succ]
    rfl
  refine rg_done (by kernel_rfl) ?_
  rw [hw6] at hHeld ⊢
  clear hw6
  have HW6 : Aside0 (SB w w6 [Box w3.heap.size #[.slice A0 v.length c0, .slice A1 cs.length c1] 28]) := ⟨hHeld.1.pick [1]⟩
  have HH6 := Aside0.mk hHeld.2.1
  clear hHeld
  have HW7 := Aside0.mk (HW6.out.alloc (.cells #[] 5))
  have HH7 := Aside0.mk (HH6.out.below (below_alloc (Below.refl _ _) (.cells #[] 5)))
  have x1 := SB.boxAt w3.heap.size 28 HW7.out
  have k0 := blk_cell x1 0
  have k1 := blk_cell x1 1
  clear x1
  have hmc := HM0.out _ HW7.out.bel
  go_wp2_with (first
    | (go_at_call 17; (with_reducible refine (HOP.out _ _ _ _ _ HH7.out HW7.out.bel).mono ?_); rintro e w8 ⟨D0, g0, D1, g1, rfl, h, hb⟩; have HW8 := Aside0.mk ((HW7.out.below hb).box #[.slice D0 v.length g0, .slice D1 co.length g1] 28); have HH8 := Aside0.mk ((HH7.out.below hb).below (below_alloc (Below.refl _ _) (.cells #[.slice D0 v.length g0, .slice D1 co.length g1] 28))); have HC8 := Aside0.mk (h.below (below_alloc (Below.refl _ _) (.cells #[.slice D0 v.length g0, .slice D1 co.length g1] 28))); clear h hb)
    | (go_at_call 13; (with_reducible refine (HPE.out _ _ _ _ _ HC8.out HW8.out.bel).mono ?_); rintro e w9 ⟨E0, i0, E1, i1, rfl, h, hb⟩; have HW9 := Aside0.mk ((HW8.out.below hb).box #[.slice E0 ve.length i0, .slice E1 co.length i1] 28); have HH9 := Aside0.mk ((HH8.out.below hb).below (below_alloc (Below.refl _ _) (.cells #[.slice E0 ve.length i0, .slice E1 co.length i1] 28))); have HD9 := Aside0.mk (h.below (below_alloc (Below.refl _ _) (.cells #[.slice E0 ve.length i0, .slice E1 co.length i1] 28))); clear h hb)
    | (go_at_call 18; (with_reducible refine (HCL.out _ _ _ _ _ HD9.out).mono ?_); rintro e w10 ⟨G0, j0, G1, j1, Be, ke, rfl, h, hce, _, hb⟩; have HW10 := Aside0.mk (((HW9.out.below hb).box #[.slice G0 v.length j0, .slice G1 cs.length j1] 28).box #[.int .i64 op, .slice Be en.length ke, .int .i64 (v.length : Int), .bool false] 31); have HH10 := Aside0.mk (((HH9.out.below hb).below (below_alloc (Below.refl _ _) (.cells #[.slice G0 v.length j0, .slice G1 cs.length j1] 28))).below (below_alloc (Below.refl _ _) (.cells #[.int .i64 op, .slice Be en.length ke, .int .i64 (v.length : Int), .bool false] 31))); have HX10 := Aside0.mk ((h.below (below_alloc (Below.refl _ _) (.cells #[.slice G0 v.length j0, .slice G1 cs.length j1] 28))).below (below_alloc (Below.refl _ _) (.cells #[.int .i64 op, .slice Be en.length ke, .int .i64 (v.length : Int), .bool false] 31))); have HE10 := Aside0.mk (Kd.C_below (Kd.C_below hce (below_alloc (Below.refl _ _) (.cells #[.slice G0 v.length j0, .slice G1 cs.length j1] 28))) (below_alloc (Below.refl _ _) (.cells #[.int .i64 op, .slice Be en.length ke, .int .i64 (v.length : Int), .bool false] 31))); clear h hb hce))
  have hq := HW10.out
  rw [World.size_alloc] at hq
  obtain ⟨w11, hw11⟩ : ∃ w11, (w10.alloc (.cells #[.slice G0 v.length j0, .slice G1 cs.length j1] 28)).alloc (.cells #[.int .i64 op, .slice Be en.length ke, .int .i64 (v.length : Int), .bool false] 31) = w11 := ⟨_, rfl⟩
  have HH11 := Aside0.mk (hw11 ▸ HH10.out)
  have HX11 := Aside0.mk (hw11 ▸ HX10.out)
  have HE11 := Aside0.mk (hw11 ▸ HE10.out)
  rw [hw11] at hq
  simp only [hw11]
  clear hw11
  have hS18 : SB w w11.drew [Box (w10.heap.size + 1) #[.int .i64 op, .slice Be en.length ke, .int .i64 (v.length : Int), .bool false] 31, Box w10.heap.size #[.slice G0 v.length j0, .slice G1 cs.length j1] 28, Box w3.heap.size #[.slice A0 v.length c0, .slice A1 cs.length c1] 28] ∧ HoldS w11.drew A0 c0 A1 c1 v cs ∧ HoldS w11.drew G0 j0 G1 j1 v cs ∧ Kd.C (Kd.int .u8) w11.drew Be en.length en := ⟨hq.drew.pick [0, 1, 4], HH11.out.below (below_drew (Below.refl _ _)), HX11.out.below (below_drew (Below.refl _ _)), Kd.C_below HE11.out (below_drew (Below.refl _ _))⟩
  have HFX := Aside0.mk (fun (w' : World) (hw' : SB w w' [Box (w10.heap.size + 1) #[.int .i64 op, .slice Be en.length ke, .int .i64 (v.length : Int), .bool false] 31, Box w10.heap.size #[.slice G0 v.length j0, .slice G1 cs.length j1] 28, Box w3.heap.size #[.slice A0 v.length c0, .slice A1 cs.length c1] 28]) (hce : Kd.C (Kd.int .u8) w' Be en.length en) => And.intro (blk_cell (SB.boxAt (w10.heap.size + 1) 31 hw') 0) (And.intro (blk_cell (SB.boxAt (w10.heap.size + 1) 31 hw') 1) (And.intro (blk_cell (SB.boxAt (w10.heap.size + 1) 31 hw') 2) (And.intro (blk_cell (SB.boxAt (w10.heap.size + 1) 31 hw') 3) (And.intro (blk_cell (SB.boxAt w10.heap.size 28 hw') 0) (And.intro (blk_cell (SB.boxAt w10.heap.size 28 hw') 1) (And.intro (blk_cell (SB.boxAt w3.heap.size 28 hw') 0) (And.intro (blk_cell (SB.boxAt w3.heap.size 28 hw') 1) (And.intro (conv25 (c := ke) hce) (HCV.out w' hw'.bel))))))))))
  refine rg_startL (n := 48) (S := fun w' => SB w w' [Box (w10.heap.size + 1) #[.int .i64 op, .slice Be en.length ke, .int .i64 (v.length : Int), .bool false] 31, Box w10.heap.size #[.slice G0 v.length j0, .slice G1 cs.length j1] 28, Box w3.heap.size #[.slice A0 v.length c0, .slice A1 cs.length c1] 28] ∧ HoldS w' A0 c0 A1 c1 v cs ∧ HoldS w' G0 j0 G1 j1 v cs ∧ Kd.C (Kd.int .u8) w' Be en.length en) (bm 48 0) (by kernel_rfl) rfl (by kernel_rfl) (hS18) (fun we hwe hHeld => ?_)
  refine rg_take (i := 0) (N := some 97) (v := ?_) (a' := ?_) (bm 48 1) rfl rfl (by kernel_rfl) (fun _ _ _ h => h) hHeld (Or.inl ⟨by rfl, ?_⟩) ?_ ?_
  rotate_left
  · intro w' hw'
    obtain ⟨s0, s1, s2, s3, r0, r1, q0, q1, hcvA, hcvB⟩ := HFX.out w' hw'.1 hw'.2.2.2
    go_simp
    with_reducible rfl
  rotate_left
  · simp only [Act.put, List.setIfInBounds_toArray, List.set_cons_zero, List.set_cons_succ]
    rfl
  refine rg_take (i := 1) (N := some 98) (v := ?_) (a' := ?_) (bm 48 3) rfl rfl (by kernel_rfl) (fun _ _ _ h => h) hHeld (Or.inl ⟨by rfl, ?_⟩) ?_ ?_
  rotate_left
  · intro w' hw'
    obtain ⟨s0, s1, s2, s3, r0, r1, q0, q1, hcvA, hcvB⟩ := HFX.out w' hw'.1 hw'.2.2.2
    go_simp
    with_reducible rfl
  rotate_left
  · simp only [Act.put, List.setIfInBounds_toArray, List.set_cons_zero, List.set_cons_succ]
    rfl
  refine rg_take (i := 2) (N := some 99) (v := ?_) (a' := ?_) (bm 48 7) rfl rfl (by kernel_rfl) (fun _ _ _ h => h) hHeld (Or.inl ⟨by rfl, ?_⟩) ?_ ?_
  rotate_left
  · intro w' hw'
    obtain ⟨s0, s1, s2, s3, r0, r1, q0, q1, hcvA, hcvB⟩ := HFX.out w' hw'.1 hw'.2.2.2
    go_simp
    with_reducible rfl
  rotate_left
  · simp only [Act.put, List.setIfInBounds_toArray, List.set_cons_zero, List.set_cons_succ]
    rfl
  refine rg_take (i := 3) (N := some 100) (v := ?_) (a' := ?_) (bm 48 15) rfl rfl (by kernel_rfl) (fun _ _ _ h => h) hHeld (Or.inl ⟨by rfl, ?_⟩) ?_ ?_
  rotate_left
  · intro w' hw'
    obtain ⟨s0, s1, s2, s3, r0, r1, q0, q1, hcvA, hcvB⟩ := HFX.out w' hw'.1 hw'.2.2.2
    go_simp
    with_reducible rfl
  rotate_left
  · simp only [Act.put, List.setIfInBounds_toArray, List.set_cons_zero, List.set_cons_succ]
    rfl
  refine rg_take (i := 4) (N := some 101) (v := ?_) (a' := ?_) (bm 48 31) rfl rfl (by kernel_rfl) (fun _ _ _ h => h) hHeld (Or.inl ⟨by rfl, ?_⟩) ?_ ?_
  rotate_left
  · intro w' hw'
    obtain ⟨s0, s1, s2, s3, r0, r1, q0, q1, hcvA, hcvB⟩ := HFX.out w' hw'.1 hw'.2.2.2
    go_simp
    with_reducible rfl
  rotate_left
  · simp only [Act.put, List.setIfInBounds_toArray, List.set_cons_zero, List.set_cons_succ]
    rfl
  refine rg_take (i := 5) (N := some 102) (v := ?_) (a' := ?_) (bm 48 63) rfl rfl (by kernel_rfl) (fun _ _ _ h => h) hHeld (Or.inl ⟨by rfl, ?_⟩) ?_ ?_
  rotate_left
  · intro w' hw'
    obtain ⟨s0, s1, s2, s3, r0, r1, q0, q1, hcvA, hcvB⟩ := HFX.out w' hw'.1 hw'.2.2.2
    go_simp
    with_reducible rfl
  rotate_left
  · simp only [Act.put, List.setIfInBounds_toArray, List.set_cons_zero, List.set_cons_succ]
    rfl
  refine rg_take (i := 6) (N := some 103) (v := ?_) (a' := ?_) (bm 48 127) rfl rfl (by kernel_rfl) (fun _ _ _ h => h) hHeld (Or.inl ⟨by rfl, ?_⟩) ?_ ?_
  rotate_left
  · intro w' hw'
    obtain ⟨s0, s1, s2, s3, r0, r1, q0, q1, hcvA, hcvB⟩ := HFX.out w' hw'.1 hw'.2.2.2
    go_simp
    with_reducible rfl
  rotate_left
  · simp only [Act.put, List.setIfInBounds_toArray, List.set_cons_zero, List.set_cons_succ]
    rfl
  refine rg_take (i := 7) (N := some 104) (v := ?_) (a' := ?_) (bm 48 255) rfl rfl (by kernel_rfl) (fun _ _ _ h => h) hHeld (Or.inl ⟨by rfl, ?_⟩) ?_ ?_
  rotate_left
  · intro w' hw'
    obtain ⟨s0, s1, s2, s3, r0, r1, q0, q1, hcvA, hcvB⟩ := HFX.out w' hw'.1 hw'.2.2.2
    go_simp
    with_reducible rfl
  rotate_left
  · simp only [Act.put, List.setIfInBounds_toArray, List.set_cons_zero, List.set_cons_succ]
    rfl
  refine rg_take (i := 8) (N := some 105) (v := ?_) (a' := ?_) (bm 48 511) rfl rfl (by kernel_rfl) (fun _ _ _ h => h) hHeld (Or.inl ⟨by rfl, ?_⟩) ?_ ?_
  rotate_left
  · intro w' hw'
    obtain ⟨s0, s1, s2, s3, r0, r1, q0, q1, hcvA, hcvB⟩ := HFX.out w' hw'.1 hw'.2.2.2
    go_simp
    with_reducible rfl
  rotate_left
  · simp only [Act.put, List.setIfInBounds_toArray, List.set_cons_zero, List.set_cons_succ]
    rfl
  refine rg_take (i := 9) (N := some 106) (v := ?_) (a' := ?_) (bm 48 1023) rfl rfl (by kernel_rfl) (fun _ _ _ h => h) hHeld (Or.inl ⟨by rfl, ?_⟩) ?_ ?_
  rotate_left
  · intro w' hw'
    obtain ⟨s0, s1, s2, s3, r0, r1, q0, q1, hcvA, hcvB⟩ := HFX.out w' hw'.1 hw'.2.2.2
    go_simp
    with_reducible rfl
  rotate_left
  · simp only [Act.put, List.setIfInBounds_toArray, List.set_cons_zero, List.set_cons_succ]
    rfl
  refine rg_take (i := 10) (N := some 107) (v := ?_) (a' := ?_) (bm 48 2047) rfl rfl (by kernel_rfl) (fun _ _ _ h => h) hHeld (Or.inl ⟨by rfl, ?_⟩) ?_ ?_
  rotate_left
  · intro w' hw'
    obtain ⟨s0, s1, s2, s3, r0, r1, q0, q1, hcvA, hcvB⟩ := HFX.out w' hw'.1 hw'.2.2.2
    go_simp
    with_reducible rfl
  rotate_left
  · simp only [Act.put, List.setIfInBounds_toArray, List.set_cons_zero, List.set_cons_succ]
    rfl
  refine rg_take (i := 11) (N := some 108) (v := ?_) (a' := ?_) (bm 48 4095) rfl rfl (by kernel_rfl) (fun _ _ _ h => h) hHeld (Or.inl ⟨by rfl, ?_⟩) ?_ ?_
  rotate_left
  · intro w' hw'
    obtain ⟨s0, s1, s2, s3, r0, r1, q0, q1, hcvA, hcvB⟩ := HFX.out w' hw'.1 hw'.2.2.2
    go_simp
    with_reducible rfl
  rotate_left
  · simp only [Act.put, List.setIfInBounds_toArray, List.set_cons_zero, List.set_cons_succ]
    rfl
  refine rg_take (i := 12) (N := some 109) (v := ?_) (a' := ?_) (bm 48 8191) rfl rfl (by kernel_rfl) (fun _ _ _ h => h) hHeld (Or.inl ⟨by rfl, ?_⟩) ?_ ?_
  rotate_left
  · intro w' hw'
    obtain ⟨s0, s1, s2, s3, r0, r1, q0, q1, hcvA, hcvB⟩ := HFX.out w' hw'.1 hw'.2.2.2
    go_simp
    with_reducible rfl
  rotate_left
  · simp only [Act.put, List.setIfInBounds_toArray, List.set_cons_zero, List.set_cons_succ]
    rfl
  refine rg_take (i := 13) (N := some 110) (v := ?_) (a' := ?_) (bm 48 16383) rfl rfl (by kernel_rfl) (fun _ _ _ h => h) hHeld (Or.inl ⟨by rfl, ?_⟩) ?_ ?_
  rotate_left
  · intro w' hw'
    obtain ⟨s0, s1, s2, s3, r0, r1, q0, q1, hcvA, hcvB⟩ := HFX.out w' hw'.1 hw'.2.2.2
    go_simp
    with_reducible rfl
  rotate_left
  · simp only [Act.put, List.setIfInBounds_toArray, List.set_cons_zero, List.set_cons_succ]
    rfl
  refine rg_take (i := 14) (N := some 111) (v := ?_) (a' := ?_) (bm 48 32767) rfl rfl (by kernel_rfl) (fun _ _ _ h => h) hHeld (Or.inl ⟨by rfl, ?_⟩) ?_ ?_
  rotate_left
  · intro w' hw'
    obtain ⟨s0, s1, s2, s3, r0, r1, q0, q1, hcvA, hcvB⟩ := HFX.out w' hw'.1 hw'.2.2.2
    go_simp
    with_reducible rfl
  rotate_left
  · simp only [Act.put, List.setIfInBounds_toArray, List.set_cons_zero, List.set_cons_succ]
    rfl
  refine rg_take (i := 15) (N := some 112) (v := ?_) (a' := ?_) (bm 48 65535) rfl rfl (by kernel_rfl) (fun _ _ _ h => h) hHeld (Or.inl ⟨by rfl, ?_⟩) ?_ ?_
  rotate_left
  · intro w' hw'
    obtain ⟨s0, s1, s2, s3, r0, r1, q0, q1, hcvA, hcvB⟩ := HFX.out w' hw'.1 hw'.2.2.2
    go_simp
    with_reducible rfl
  rotate_left
  · simp only [Act.put, List.setIfInBounds_toArray, List.set_cons_zero, List.set_cons_succ]
    rfl
  refine rg_take (i := 16) (N := some 113) (v := ?_) (a' := ?_) (bm 48 131071) rfl rfl (by kernel_rfl) (fun _ _ _ h => h) hHeld (Or.inl ⟨by rfl, ?_⟩) ?_ ?_
  rotate_left
  · intro w' hw'
    obtain ⟨s0, s1, s2, s3, r0, r1, q0, q1, hcvA, hcvB⟩ := HFX.out w' hw'.1 hw'.2.2.2
    go_simp
    with_reducible rfl
  rotate_left
  · simp only [Act.put, List.setIfInBounds_toArray, List.set_cons_zero, List.set_cons_succ]
    rfl
  refine rg_take (i := 17) (N := some 114) (v := ?_) (a' := ?_) (bm 48 262143) rfl rfl (by kernel_rfl) (fun _ _ _ h => h) hHeld (Or.inl ⟨by rfl, ?_⟩) ?_ ?_
  rotate_left
  · intro w' hw'
    obtain ⟨s0, s1, s2, s3, r0, r1, q0, q1, hcvA, hcvB⟩ := HFX.out w' hw'.1 hw'.2.2.2
    go_simp
    with_reducible rfl
  rotate_left
  · simp only [Act.put, List.setIfInBounds_toArray, List.set_cons_zero, List.set_cons_succ]
    rfl
  refine rg_take (i := 18) (N := some 115) (v := ?_) (a' := ?_) (bm 48 524287) rfl rfl (by kernel_rfl) (fun _ _ _ h => h) hHeld (Or.inl ⟨by rfl, ?_⟩) ?_ ?_
  rotate_left
  · intro w' hw'
    obtain ⟨s0, s1, s2, s3, r0, r1, q0, q1, hcvA, hcvB⟩ := HFX.out w' hw'.1 hw'.2.2.2
    go_simp
    with_reducible rfl
  rotate_left
  · simp only [Act.put, List.setIfInBounds_toArray, List.set_cons_zero, List.set_cons_succ]
    rfl
  refine rg_take (i := 19) (N := some 116) (v := ?_) (a' := ?_) (bm 48 1048575) rfl rfl (by kernel_rfl) (fun _ _ _ h => h) hHeld (Or.inl ⟨by rfl, ?_⟩) ?_ ?_
  rotate_left
  · intro w' hw'
    obtain ⟨s0, s1, s2, s3, r0, r1, q0, q1, hcvA, hcvB⟩ := HFX.out w' hw'.1 hw'.2.2.2
    go_simp
    with_reducible rfl
  rotate_left
  · simp only [Act.put, List.setIfInBounds_toArray, List.set_cons_zero, List.set_cons_succ]
    rfl
  refine rg_take (i := 20) (N := some 117) (v := ?_) (a' := ?_) (bm 48 2097151) rfl rfl (by kernel_rfl) (fun _ _ _ h => h) hHeld (Or.inl ⟨by rfl, ?_⟩) ?_ ?_
  rotate_left
  · intro w' hw'
    obtain ⟨s0, s1, s2, s3, r0, r1, q0, q1, hcvA, hcvB⟩ := HFX.out w' hw'.1 hw'.2.2.2
    go_simp
    with_reducible rfl
  rotate_left
  · simp only [Act.put, List.setIfInBounds_toArray, List.set_cons_zero, List.set_cons_succ]
    rfl
  refine rg_take (i := 21) (N := some 118) (v := ?_) (a' := ?_) (bm 48 4194303) rfl rfl (by kernel_rfl) (fun _ _ _ h => h) hHeld (Or.inl ⟨by rfl, ?_⟩) ?_ ?_
  rotate_left
  · intro w' hw'
    obtain ⟨s0, s1, s2, s3, r0, r1, q0, q1, hcvA, hcvB⟩ := HFX.out w' hw'.1 hw'.2.2.2
    go_simp
    with_reducible rfl
  rotate_left
  · simp only [Act.put, List.setIfInBounds_toArray, List.set_cons_zero, List.set_cons_succ]
    rfl
  refine rg_take (i := 22) (N := some 119) (v := ?_) (a' := ?_) (bm 48 8388607) rfl rfl (by kernel_rfl) (fun _ _ _ h => h) hHeld (Or.inl ⟨by rfl, ?_⟩) ?_ ?_
  rotate_left
  · intro w' hw'
    obtain ⟨s0, s1, s2, s3, r0, r1, q0, q1, hcvA, hcvB⟩ := HFX.out w' hw'.1 hw'.2.2.2
    go_simp
    with_reducible rfl
  rotate_left
  · simp only [Act.put, List.setIfInBounds_toArray, List.set_cons_zero, List.set_cons_succ]
    rfl
  refine rg_take (i := 23) (N := some 120) (v := ?_) (a' := ?_) (bm 48 16777215) rfl rfl (by kernel_rfl) (fun _ _ _ h => h) hHeld (Or.inl ⟨by rfl, ?_⟩) ?_ ?_
  rotate_left
  · intro w' hw'
    obtain ⟨s0, s1, s2, s3, r0, r1, q0, q1, hcvA, hcvB⟩ := HFX.out w' hw'.1 hw'.2.2.2
    go_simp
    with_reducible rfl
  rotate_left
  · simp only [Act.put, List.setIfInBounds_toArray, List.set_cons_zero, List.set_cons_succ]
    rfl
  refine rg_take (i := 24) (N := some 121) (v := ?_) (a' := ?_) (bm 48 33554431) rfl rfl (by kernel_rfl) (fun _ _ _ h => h) hHeld (Or.inl ⟨by rfl, ?_⟩) ?_ ?_
  rotate_left
  · intro w' hw'
    obtain ⟨s0, s1, s2, s3, r0, r1, q0, q1, hcvA, hcvB⟩ := HFX.out w' hw'.1 hw'.2.2.2
    go_simp
    with_reducible rfl
  rotate_left
  · simp only [Act.put, List.setIfInBounds_toArray, List.set_cons_zero, List.set_cons_succ]
    rfl
  refine rg_take (i := 25) (N := some 122) (v := ?_) (a' := ?_) (bm 48 67108863) rfl rfl (by kernel_rfl) (fun _ _ _ h => h) hHeld (Or.inl ⟨by rfl, ?_⟩) ?_ ?_
  rotate_left
  · intro w' hw'
    obtain ⟨s0, s1, s2, s3, r0, r1, q0, q1, hcvA, hcvB⟩ := HFX.out w' hw'.1 hw'.2.2.2
    go_simp
    with_reducible rfl
  rotate_left
  · simp only [Act.put, List.setIfInBounds_toArray, List.set_cons_zero, List.set_cons_succ]
    rfl
  refine rg_take (i := 26) (N := some 123) (v := ?_) (a' := ?_) (bm 48 134217727) rfl rfl (by kernel_rfl) (fun _ _ _ h => h) hHeld (Or.inl ⟨by rfl, ?_⟩) ?_ ?_
  rotate_left
  · intro w' hw'
    obtain ⟨s0, s1, s2, s3, r0, r1, q0, q1, hcvA, hcvB⟩ := HFX.out w' hw'.1 hw'.2.2.2
    go_simp
    with_reducible rfl
  rotate_left
  · simp only [Act.put, List.setIfInBounds_toArray, List.set_cons_zero, List.set_cons_succ]
    rfl
  refine rg_take (i := 27) (N := some 124) (v := ?_) (a' := ?_) (bm 48 268435455) rfl rfl (by kernel_rfl) (fun _ _ _ h => h) hHeld (Or.inl ⟨by rfl, ?_⟩) ?_ ?_
  rotate_left
  · intro w' hw'
    obtain ⟨s0, s1, s2, s3, r0, r1, q0, q1, hcvA, hcvB⟩ := HFX.out w' hw'.1 hw'.2.2.2
    go_simp
    with_reducible rfl
  rotate_left
  · simp only [Act.put, List.setIfInBounds_toArray, List.set_cons_zero, List.set_cons_succ]
    rfl
  refine rg_take (i := 28) (N := some 125) (v := ?_) (a' := ?_) (bm 48 536870911) rfl rfl (by kernel_rfl) (fun _ _ _ h => h) hHeld (Or.inl ⟨by rfl, ?_⟩) ?_ ?_
  rotate_left
  · intro w' hw'
    obtain ⟨s0, s1, s2, s3, r0, r1, q0, q1, hcvA, hcvB⟩ := HFX.out w' hw'.1 hw'.2.2.2
    go_simp
    with_reducible rfl
  rotate_left
  · simp only [Act.put, List.setIfInBounds_toArray, List.set_cons_zero, List.set_cons_succ]
    rfl
  refine rg_take (i := 29) (N := some 126) (v := ?_) (a' := ?_) (bm 48 1073741823) rfl rfl (by kernel_rfl) (fun _ _ _ h => h) hHeld (Or.inl ⟨by rfl, ?_⟩) ?_ ?_
  rotate_left
  · intro w' hw'
    obtain ⟨s0, s1, s2, s3, r0, r1, q0, q1, hcvA, hcvB⟩ := HFX.out w' hw'.1 hw'.2.2.2
    go_simp
    with_reducible rfl
  rotate_left
  · simp only [Act.put, List.setIfInBounds_toArray, List.set_cons_zero, List.set_cons_succ]
    rfl
  refine rg_take (i := 30) (N := some 127) (v := ?_) (a' := ?_) (bm 48 2147483647) rfl rfl (by kernel_rfl) (fun _ _ _ h => h) hHeld (Or.inl ⟨by rfl, ?_⟩) ?_ ?_
  rotate_left
  · intro w' hw'
    obtain ⟨s0, s1, s2, s3, r0, r1, q0, q1, hcvA, hcvB⟩ := HFX.out w' hw'.1 hw'.2.2.2
    go_simp
    with_reducible rfl
  rotate_left
  · simp only [Act.put, List.setIfInBounds_toArray, List.set_cons_zero, List.set_cons_succ]
    rfl
  refine rg_take (i := 31) (N := some 128) (v := ?_) (a' := ?_) (bm 48 4294967295) rfl rfl (by kernel_rfl) (fun _ _ _ h => h) hHeld (Or.inl ⟨by rfl, ?_⟩) ?_ ?_
  rotate_left
  · intro w' hw'
    obtain ⟨s0, s1, s2, s3, r0, r1, q0, q1, hcvA, hcvB⟩ := HFX.out w' hw'.1 hw'.2.2.2
    go_simp
    with_reducible rfl
  rotate_left
  · simp only [Act.put, List.setIfInBounds_toArray, List.set_cons_zero, List.set_cons_succ]
    rfl
  refine rg_take (i := 32) (N := some 129) (v := ?_) (a' := ?_) (bm 48 8589934591) rfl rfl (by kernel_rfl) (fun _ _ _ h => h) hHeld (Or.inl ⟨by rfl, ?_⟩) ?_ ?_
  rotate_left
  · intro w' hw'
    obtain ⟨s0, s1, s2, s3, r0, r1, q0, q1, hcvA, hcvB⟩ := HFX.out w' hw'.1 hw'.2.2.2
    go_simp
    with_reducible rfl
  rotate_left
  · simp only [Act.put, List.setIfInBounds_toArray, List.set_cons_zero, List.set_cons_succ]
    rfl
  refine rg_take (i := 33) (N := some 130) (v := ?_) (a' := ?_) (bm 48 17179869183) rfl rfl (by kernel_rfl) (fun _ _ _ h => h) hHeld (Or.inl ⟨by rfl, ?_⟩) ?_ ?_
  rotate_left
  · intro w' hw'
    obtain ⟨s0, s1, s2, s3, r0, r1, q0, q1, hcvA, hcvB⟩ := HFX.out w' hw'.1 hw'.2.2.2
    go_simp
    with_reducible rfl
  rotate_left
  · simp only [Act.put, List.setIfInBounds_toArray, List.set_cons_zero, List.set_cons_succ]
    rfl
  refine rg_take (i := 34) (N := some 131) (v := ?_) (a' := ?_) (bm 48 34359738367) rfl rfl (by kernel_rfl) (fun _ _ _ h => h) hHeld (Or.inl ⟨by rfl, ?_⟩) ?_ ?_
  rotate_left
  · intro w' hw'
    obtain ⟨s0, s1, s2, s3, r0, r1, q0, q1, hcvA, hcvB⟩ := HFX.out w' hw'.1 hw'.2.2.2
    go_simp
    with_reducible rfl
  rotate_left
  · simp only [Act.put, List.setIfInBounds_toArray, List.set_cons_zero, List.set_cons_succ]
    rfl
  refine rg_take (i := 35) (N := some 132) (v := ?_) (a' := ?_) (bm 48 68719476735) rfl rfl (by kernel_rfl) (fun _ _ _ h => h) hHeld (Or.inl ⟨by rfl, ?_⟩) ?_ ?_
  rotate_left
  · intro w' hw'
    obtain ⟨s0, s1, s2, s3, r0, r1, q0, q1, hcvA, hcvB⟩ := HFX.out w' hw'.1 hw'.2.2.2
    go_simp
    with_reducible rfl
  rotate_left
  · simp only [Act.put, List.setIfInBounds_toArray, List.set_cons_zero, List.set_cons_succ]
    rfl
  refine rg_take (i := 36) (N := some 133) (v := ?_) (a' := ?_) (bm 48 137438953471) rfl rfl (by kernel_rfl) (fun _ _ _ h => h) hHeld (Or.inl ⟨by rfl, ?_⟩) ?_ ?_
  rotate_left
  · intro w' hw'
    obtain ⟨s0, s1, s2, s3, r0, r1, q0, q1, hcvA, hcvB⟩ := HFX.out w' hw'.1 hw'.2.2.2
    go_simp
    with_reducible rfl
  rotate_left
  · simp only [Act.put, List.setIfInBounds_toArray, List.set_cons_zero, List.set_cons_succ]
    rfl
  refine rg_take (i := 37) (N := some 134) (v := ?_) (a' := ?_) (bm 48 274877906943) rfl rfl (by kernel_rfl) (fun _ _ _ h => h) hHeld (Or.inl ⟨by rfl, ?_⟩) ?_ ?_
  rotate_left
  · intro w' hw'
    obtain ⟨s0, s1, s2, s3, r0, r1, q0, q1, hcvA, hcvB⟩ := HFX.out w' hw'.1 hw'.2.2.2
    go_simp
    with_reducible rfl
  rotate_left
  · simp only [Act.put, List.setIfInBounds_toArray, List.set_cons_zero, List.set_cons_succ]
    rfl
  refine rg_take (i := 38) (N := some 135) (v := ?_) (a' := ?_) (bm 48 549755813887) rfl rfl (by kernel_rfl) (fun _ _ _ h => h) hHeld (Or.inl ⟨by rfl, ?_⟩) ?_ ?_
  rotate_left
  · intro w' hw'
    obtain ⟨s0, s1, s2, s3, r0, r1, q0, q1, hcvA, hcvB⟩ := HFX.out w' hw'.1 hw'.2.2.2
    go_simp
    with_reducible rfl
  rotate_left
  · simp only [Act.put, List.setIfInBounds_toArray, List.set_cons_zero, List.set_cons_succ]
    rfl
  refine rg_take (i := 39) (N := some 136) (v := ?_) (a' := ?_) (bm 48 1099511627775) rfl rfl (by kernel_rfl) (fun _ _ _ h => h) hHeld (Or.inl ⟨by rfl, ?_⟩) ?_ ?_
  rotate_left
  · intro w' hw'
    obtain ⟨s0, s1, s2, s3, r0, r1, q0, q1, hcvA, hcvB⟩ := HFX.out w' hw'.1 hw'.2.2.2
    go_simp
    with_reducible rfl
  rotate_left
  · simp only [Act.put, List.setIfInBounds_toArray, List.set_cons_zero, List.set_cons_succ]
    rfl
  refine rg_take (i := 40) (N := some 137) (v := ?_) (a' := ?_) (bm 48 2199023255551) rfl rfl (by kernel_rfl) (fun _ _ _ h => h) hHeld (Or.inl ⟨by rfl, ?_⟩) ?_ ?_
  rotate_left
  · intro w' hw'
    obtain ⟨s0, s1, s2, s3, r0, r1, q0, q1, hcvA, hcvB⟩ := HFX.out w' hw'.1 hw'.2.2.2
    go_simp
    with_reducible rfl
  rotate_left
  · simp only [Act.put, List.setIfInBounds_toArray, List.set_cons_zero, List.set_cons_succ]
    rfl
  refine rg_take (i := 41) (N := some 138) (v := ?_) (a' := ?_) (bm 48 4398046511103) rfl rfl (by kernel_rfl) (fun _ _ _ h => h) hHeld (Or.inl ⟨by rfl, ?_⟩) ?_ ?_
  rotate_left
  · intro w' hw'
    obtain ⟨s0, s1, s2, s3, r0, r1, q0, q1, hcvA, hcvB⟩ := HFX.out w' hw'.1 hw'.2.2.2
    go_simp
    with_reducible rfl
  rotate_left
  · simp only [Act.put, List.setIfInBounds_toArray, List.set_cons_zero, List.set_cons_succ]
    rfl
  refine rg_take (i := 43) (N := some 140) (v := ?_) (a' := ?_) (bm 48 13194139533311) rfl rfl (by kernel_rfl) (fun _ _ _ h => h) hHeld (Or.inl ⟨by rfl, ?_⟩) ?_ ?_
  rotate_left
  · intro w' hw'
    obtain ⟨s0, s1, s2, s3, r0, r1, q0, q1, hcvA, hcvB⟩ := HFX.out w' hw'.1 hw'.2.2.2
    go_simp
    with_reducible rfl
  rotate_left
  · simp only [Act.put, List.setIfInBounds_toArray, List.set_cons_zero, List.set_cons_succ]
    rfl
  refine rg_ready [42] (by kernel_rfl) (by simp) ?_
  refine rg_one (i := 42) (N := some 139) (bm 48 17592186044415) rfl rfl (by kernel_rfl) (fun K hK => ?_) rg_nil
  go_simp
  go_at_call 16
  with_reducible refine (HTH.out _ _ _ _ _ hHeld.2.2.1).mono ?_
  rintro e wx42r18 ⟨T0, t0, rfl, hT, hb⟩
  have HT4 := Aside0.mk hT
  have hnew := And.intro (hHeld.1.below hb) (And.intro (hHeld.2.1.below hb) (And.intro (hHeld.2.2.1.below hb) (Kd.C_below hHeld.2.2.2 hb)))
  clear hT hb
  go_wp2_with fail
  refine hK.out _ _ hnew ?_
  clear hK K
  refine rg_norm (a' := ?_) ?_ ?_
  rotate_left
  · simp only [Act.put, List.setIfInBounds_toArray, List.set_cons_zero, List.set_cons_succ]
    rfl
  clear hHeld
  have hHeld := hnew
  clear hnew
  refine rg_ready [44] (by kernel_rfl) (by simp) ?_
  refine rg_one (i := 44) (N := some 141) (bm 48 35184372088831) rfl rfl (by kernel_rfl) (fun K hK => ?_) rg_nil
  go_simp
  go_at_call 16
  with_reducible refine (HTH.out _ _ _ _ _ hHeld.2.1).mono ?_
  rintro e wx42x44r18 ⟨T1, t1, rfl, hT, hb⟩
  have HT6 := Aside0.mk hT
  have HT46 := Aside0.mk (HT4.out.below hb)
  have hnew := And.intro (hHeld.1.below hb) (And.intro (hHeld.2.1.below hb) (And.intro (hHeld.2.2.1.below hb) (Kd.C_below hHeld.2.2.2 hb)))
  clear hT hb
  go_wp2_with fail
  refine hK.out _ _ hnew ?_
  clear hK K
  refine rg_norm (a' := ?_) ?_ ?_
  rotate_left
  · simp only [Act.put, List.setIfInBounds_toArray, List.set_cons_zero, List.set_cons_succ]
    rfl
  clear hHeld
  have hHeld := hnew
  clear hnew
  refine rg_ready [45] (by kernel_rfl) (by simp) ?_
  refine rg_one (i := 45) (N := some 142) (bm 48 70368744177663) rfl rfl (by kernel_rfl) (fun K hK => ?_) rg_nil
  go_simp
  go_at_call 15
  with_reducible refine (HSM.out _ _ _ _ _ _ _ _ _ HT46.out HT6.out).mono ?_
  rintro e wx42x44x45r18 ⟨rfl, hb⟩
  have hnew := And.intro (hHeld.1.below hb) (And.intro (hHeld.2.1.below hb) (And.intro (hHeld.2.2.1.below hb) (Kd.C_below hHeld.2.2.2 hb)))
  clear hb
  go_wp2_with fail
  refine hK.out _ _ hnew ?_
  clear hK K
  refine rg_norm (a' := ?_) ?_ ?_
  rotate_left
  · simp only [Act.put, List.setIfInBounds_toArray, List.set_cons_zero, List.set_cons_succ]
    rfl
  clear hHeld
  have hHeld := hnew
  clear hnew
  refine rg_take (i := 46) (N := some 143) (v := ?_) (a' := ?_) (bm 48 140737488355327) rfl rfl (by kernel_rfl) (fun _ _ _ h => h) hHeld (Or.inl ⟨by rfl, ?_⟩) ?_ ?_
  rotate_left
  · intro w' hw'
    obtain ⟨s0, s1, s2, s3, r0, r1, q0, q1, hcvA, hcvB⟩ := HFX.out w' hw'.1 hw'.2.2.2
    go_simp
    with_reducible rfl
  rotate_left
  · simp only [Act.put, List.setIfInBounds_toArray, List.set_cons_zero, List.set_cons_succ]
    rfl
  refine rg_take (i := 47) (N := some 6) (v := ?_) (a' := ?_) (bm 48 281474976710655) rfl rfl (by kernel_rfl) (fun _ _ _ h => h) hHeld (Or.inl ⟨by rfl, ?_⟩) ?_ ?_
  rotate_left
  · intro w' hw'
    obtain ⟨s0, s1, s2, s3, r0, r1, q0, q1, hcvA, hcvB⟩ := HFX.out w' hw'.1 hw'.2.2.2
    go_simp
    with_reducible rfl
  rotate_left
  · simp only [Act.put, List.setIfInBounds_toArray, List.set_cons_zero, List.set_cons_succ]
    rfl
  refine rg_done (by kernel_rfl) ?_
  go_wp2
  go_ret
  exact ⟨rfl, hHeld.1.bel⟩
end Go.Proofs.Ytagblobimoedcaa.G
