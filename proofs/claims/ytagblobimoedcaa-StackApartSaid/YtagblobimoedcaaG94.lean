/- StackApart: what is made of a stack leaves the stack as it was. -/
import Derived.Test.YtagblobimoedcaaStkR
import Derived.Test.YtagblobimoedcaaG3
namespace Go.Proofs.Ytagblobimoedcaa.G
open Go.RowKit Go.Proofs.YtagblobimoedcaaW.PrintWords Go.Proofs.YtagblobimoedcaaW.PrintLast Go.Proofs.YtagblobimoedcaaW.PrintMore
set_option linter.unusedVariables false
set_option linter.unusedSimpArgs false
theorem CT_set {w : World} {B t i : Nat} {cs : Array Value} {u : Value} (hb : w.heap[B]? = some (.cells cs t (0, 0))) (hs : Slices cs) {A : Option Addr} {n : Nat} {xs : List S59} (h : Kd.C k59 w A n xs) : Kd.C k59 (w.setCell ⟨B, i, none⟩ u) A n xs := by
  refine ⟨h.1, h.2.1, fun hn => ?_⟩
  obtain ⟨ad, e, hc⟩ := h.2.2 hn
  refine ⟨ad, e, fun j p hj => ?_⟩
  obtain ⟨c, l1, l2, l3⟩ := hc j p hj
  obtain ⟨A1, c1, rfl, l4, g1⟩ := k59_open l2
  refine ⟨_, l1, k59_mk _ p l4 (Cint_set hb hs g1), fun i' u' hu => ?_⟩
  have h0 := l3 0 _ rfl
  have h4 := int_far hb hs h0
  rw [addBlk] at h4
  rw [cell_set (by rw [addBlk]; exact h4)]
  exact l3 i' u' hu
theorem HoldT.set2 {w : World} {B t : Nat} {X Y : Option Addr} {n m c d : Nat} (hb : w.heap[B]? = some (.cells #[.slice X n c, .slice Y m d] t (0, 0))) {X' Y' : Option Addr} {n' m' c' d' : Nat} {A0 A1 : Option Addr} {c0 c1 : Nat} {v : List Int} {cs : List S59} (h : HoldT w A0 c0 A1 c1 v cs) :
    HoldT ((w.setCell ⟨B, 0, none⟩ (.slice X' n' c')).setCell ⟨B, 1, none⟩ (.slice Y' m' d')) A0 c0 A1 c1 v cs :=
  ⟨Cint_set (blk_set hb 0 (.slice X' n' c')) (slices2 _ _ _ _ _ _) (Cint_set hb (slices2 _ _ _ _ _ _) h.hv), CT_set (blk_set hb 0 (.slice X' n' c')) (slices2 _ _ _ _ _ _) (CT_set hb (slices2 _ _ _ _ _ _) h.hc), h.lv, h.lc⟩
theorem copiedS {w : World} {A0 A1 : Option Addr} {c0 c1 : Nat} {v : List Int} {ts : List S59} (h : HoldT w A0 c0 A1 c1 v ts) (hl : v.length ≤ 1000000) (hl2 : ts.length ≤ 1000000) :
    Calls Try.prog 19 #[.agg #[.slice A0 v.length c0, .slice A1 ts.length c1]] w fun e w' => ∃ B0 d0 B1 d1, e = .returned (.agg #[.slice B0 v.length d0, .slice B1 ts.length d1]) ∧ HoldT w' B0 d0 B1 d1 v ts ∧ Below w.heap.size w w' := by
  have hf : avocetref09_Copied.f v ts = some (v, ts) := by
    unfold avocetref09_Copied.f
    simp only [Option.bind_some, List.length_nil, List.nil_append]
    rw [if_pos (by omega), if_pos (by omega)]
  refine (avocetref09_Copied.calls A0 c0 v (fun _ => True) A1 c1 ts v ts w h.hv h.lv (Kd.V_mk h.lc (fun W' hW => Kd.Heap.C k59_heap (fun k hk => hW k trivial hk) h.hc)) hf).mono ?_
  rintro e w' ⟨v0, v1, rfl, hr0, hr1, hb⟩
  obtain ⟨B0, d0, rfl, hd0, hC0⟩ := Kd.R_reads hr0
  obtain ⟨B1, d1, rfl, hd1, hC1⟩ := Kd.N_reads hr1
  exact ⟨B0, d0, B1, d1, rfl, ⟨hC0, hC1, hd0, hd1⟩, hb⟩
set_option maxHeartbeats 8000000 in
set_option maxRecDepth 100000 in
theorem stackApart (A : Option Addr) (c : Nat) (l : List S47) (Ao : Option Addr) (co : Nat) (o : List S47) (w : World) (hC : Kd.C k47 w A l.length l) (hc : l.length ≤ c) (hCo : Kd.C k47 w Ao o.length o) (hco : o.length ≤ co) :
    Calls Try.prog 5 #[.slice A l.length c, .slice Ao o.length co] w fun e w' => e = .returned (.bool true) ∧ Below w.heap.size w w' := by
  have HC := Aside0.mk hC
  have HCO := Aside0.mk hCo
  have hleno := hCo.2.1
  clear hC hCo
  obtain ⟨b, hb⟩ : ∃ b, fewB l = b := ⟨_, rfl⟩
  have HF := Aside0.mk (fun (W : World) (hW : Below w.heap.size w W) => hb ▸ fewS (Kd.C_below HC.out hW) hc)
  obtain ⟨b2, hb2⟩ : ∃ b, fewB o = b := ⟨_, rfl⟩
  have HF2 := Aside0.mk (fun (W : World) (hW : Below w.heap.size w W) => hb2 ▸ fewS (Kd.C_below HCO.out hW) hco)
  cases b with
  | false =>
    clear hb hb2
    go_enter Try.func5, Try.ntmps5
    go_wp2_with (first
      | (go_at_call 9; (with_reducible refine (awakeS _).mono ?_); rintro e w1 ⟨rfl, hb⟩; have HB := Aside0.mk hb; clear hb)
      | (go_at_call 10; (with_reducible refine (HF.out _ HB.out).mono ?_); rintro e w2 ⟨rfl, hb⟩; have HB2 := Aside0.mk (below_then HB.out HB.out.size hb); clear hb))
    go_ret
    exact ⟨rfl, HB2.out⟩
  | true =>
    cases b2 with
    | false =>
      clear hb hb2
      go_enter Try.func5, Try.ntmps5
      go_wp2_with (first
        | (go_at_call 9; (with_reducible refine (awakeS _).mono ?_); rintro e w1 ⟨rfl, hb⟩; have HB := Aside0.mk hb; clear hb)
        | (go_at_call 10; (with_reducible refine (HF.out _ HB.out).mono ?_); rintro e w2 ⟨rfl, hb⟩; have HB2 := Aside0.mk (below_then HB.out HB.out.size hb); clear hb)
        | (go_at_call 10; (with_reducible refine (HF2.out _ HB2.out).mono ?_); rintro e w3 ⟨rfl, hb⟩; have HB3 := Aside0.mk (below_then HB2.out HB2.out.size hb); clear hb))
      go_ret
      exact ⟨rfl, HB3.out⟩
    | true =>
      have hf := (fewB_iff l).1 hb
      have hfo := (fewB_iff o).1 hb2
      have HG := Aside0.mk (fun (W : World) (hW : Below w.heap.size w W) => growns A c l W (Kd.C_below HC.out hW) hf)
      have hm := modest_all hf
      have hcs := gAll_len hf l.length (Nat.le_refl _)
      rw [List.take_length] at hcs
      have hl100 := hf.1
      obtain ⟨v, cs, hvc⟩ : ∃ v cs, gAll l = (v, cs) := ⟨_, _, rfl⟩
      rw [hvc] at HG hm hcs
      simp only at HG hm hcs
      have hcsl : cs.length ≤ 1000000 := by omega
      have hvl : v.length ≤ 1000000 := by omega
      have HTH := Aside0.mk (fun (W : World) (A0 A1 : Option Addr) (c0 c1 : Nat) (h : HoldS W A0 c0 A1 c1 v cs) => theirsS h hcsl)
      have HSM := Aside0.mk (fun (W : World) (A0 A1 B0 B1 : Option Addr) (c0 c1 d0 d1 : Nat) (h : HoldT W A0 c0 A1 c1 v (cs.map toT)) (g : HoldT W B0 d0 B1 d1 v (cs.map toT)) => sameS h g (by rw [List.length_map]; exact hcsl))
      have HCP := Aside0.mk (fun (W : World) (A0 A1 : Option Addr) (c0 c1 : Nat) (h : HoldT W A0 c0 A1 c1 v (cs.map toT)) => copiedS h hvl (by rw [List.length_map]; exact hcsl))
      obtain ⟨ts, hts⟩ : ∃ ts, cs.map toT = ts := ⟨_, rfl⟩
      rw [hts] at HTH HSM HCP
      have HX2 := Aside0.mk (show ∀ x ∈ o, x.f2.length ≤ 400000000 from fun x hx => by have := hfo.2 x hx; omega)
      have HPO := Aside0.mk (fun (W : World) (A0 A1 : Option Addr) (c0 c1 : Nat) (h : HoldS W A0 c0 A1 c1 v cs) => stkPopS h hm)
      have HCL := Aside0.mk (fun (W : World) (A0 A1 : Option Addr) (c0 c1 : Nat) (h : HoldS W A0 c0 A1 c1 v cs) => stkClose h hm)
      have HKI := Aside0.mk (fun (W : World) (A0 A1 : Option Addr) (c0 c1 : Nat) (h : HoldS W A0 c0 A1 c1 v cs) => stkKill h hm)
      have HMO := Aside0.mk hm
      have hmcs := hm.2
      clear hb hb2 hf hfo hvc hcs hl100 hcsl hvl hts hm
      go_enter Try.func5, Try.ntmps5
      go_wp2_with (first
        | (go_at_call 9; (with_reducible refine (awakeS _).mono ?_); rintro e w1 ⟨rfl, hb⟩; have HB := Aside0.mk hb; clear hb)
        | (go_at_call 10; (with_reducible refine (HF.out _ HB.out).mono ?_); rintro e w2 ⟨rfl, hb⟩; have HB2 := Aside0.mk (below_then HB.out HB.out.size hb); clear hb)
        | (go_at_call 10; (with_reducible refine (HF2.out _ HB2.out).mono ?_); rintro e w3 ⟨rfl, hb⟩; have HB3 := Aside0.mk (below_then HB2.out HB2.out.size hb); clear hb)
        | (go_at_call 11; (with_reducible refine (HG.out _ HB3.out).mono ?_); rintro e w4 ⟨A0, c0, A1, c1, rfl, h, hb⟩; have HW4 := Aside0.mk (((SB.start w).below (below_then HB3.out HB3.out.size hb)).box #[.slice A0 v.length c0, .slice A1 cs.length c1] 28); have HH4 := Aside0.mk (h.below (below_alloc (Below.refl _ _) (.cells #[.slice A0 v.length c0, .slice A1 cs.length c1] 28))); clear h hb)
        | (go_at_call 16; (with_reducible refine (HTH.out _ _ _ _ _ HH4.out).mono ?_); rintro e w5 ⟨T0, t0, rfl, hT, hb⟩; have HW5 := Aside0.mk ((HW4.out.below hb).box #[.slice A0 v.length c0, .slice T0 ts.length t0] 39); have HH5 := Aside0.mk ((HH4.out.below hb).below (below_alloc (Below.refl _ _) (.cells #[.slice A0 v.length c0, .slice T0 ts.length t0] 39))); have HT5 := Aside0.mk (hT.below (below_alloc (Below.refl _ _) (.cells #[.slice A0 v.length c0, .slice T0 ts.length t0] 39))); clear hT hb)
        | (go_at_call 19; (with_reducible refine (HCP.out _ _ _ _ _ HT5.out).mono ?_); rintro e w6 ⟨U0, u0, U1, u1, rfl, hT, hb⟩; have HW6 := Aside0.mk (HW5.out.below hb); have HH6 := Aside0.mk (HH5.out.below hb); have HT6 := Aside0.mk hT; clear hT hb; have x1 := SB.boxAt w5.heap.size 39 HW6.out; have k0 := blk_cell x1 0; have k1 := blk_cell x1 1; have y0 := blk_fro x1 0; have y1 := blk_fro x1 1; clear x1))
      obtain ⟨w7, hw7⟩ : ∃ w7, (w6.setCell ⟨w5.heap.size, 0, none⟩ (.slice U0 v.length u0)).setCell ⟨w5.heap.size, 1, none⟩ (.slice U1 ts.length u1) = w7 := ⟨_, rfl⟩
      have hs5 := SB.boxAt w5.heap.size 39 HW6.out
      have HW7 : Aside0 (SB w w7 [Box w5.heap.size #[.slice U0 v.length u0, .slice U1 ts.length u1] 39, Box w4.heap.size #[.slice A0 v.length c0, .slice A1 cs.length c1] 28]) := ⟨hw7 ▸ ((HW6.out.set1 0 (.slice U0 v.length u0)).set1 1 (.slice U1 ts.length u1))⟩
      have HH7 : Aside0 (HoldS w7 A0 c0 A1 c1 v cs) := ⟨hw7 ▸ (HH6.out.set2 hs5)⟩
      have HT7 : Aside0 (HoldT w7 U0 u0 U1 u1 v ts) := ⟨hw7 ▸ (HT6.out.set2 hs5)⟩
      simp only [hw7]
      clear hw7 hs5 k0 k1 y0 y1
      go_loopw [8] (fun v8 wr => ∃ i : Nat, v8 = .int .i64 i ∧ i ≤ o.length ∧ Aside0 (SB w wr [Box w5.heap.size #[.slice U0 v.length u0, .slice U1 ts.length u1] 39, Box w4.heap.size #[.slice A0 v.length c0, .slice A1 cs.length c1] 28]) ∧ Aside0 (HoldS wr A0 c0 A1 c1 v cs) ∧ Aside0 (HoldT wr U0 u0 U1 u1 v ts)) (fun v8 _ => o.length - (intOf v8).toNat)
      case atStart => exact ⟨0, rfl, Nat.zero_le _, ⟨HW7.out⟩, ⟨HH7.out⟩, ⟨HT7.out⟩⟩
      case round =>
        obtain ⟨i, rfl, hi, HQ, HHQ, HTQ⟩ := hrel
        by_cases hlt : i < o.length
        · have d1 : decide ((i : Int) < (o.length : Int)) = true := decide_eq_true (by omega)
          have d2 : decide (i < o.length) = true := decide_eq_true hlt
          have p0 := eq_true (show (0 : Int) ≤ (i : Int) by omega)
          have hat := at_T47 HCO.out (i : Int) (by omega) (by omega)
          obtain ⟨x, hx⟩ : ∃ x, o[i] = x := ⟨_, rfl⟩
          rw [rd47 hlt, hx, Int.toNat_natCast] at hat
          obtain ⟨ad, A5, c5, hAd, q0w, q1w, q2w, l5, g5⟩ := hat
          have hxl := HX2.out x (by rw [← hx]; exact List.getElem_mem _)
          have hadl := World.block_lt_of_cell? w _ q0w
          have HAC := Aside0.mk (show ∀ W, Below w.heap.size w W → W.cell? (ad.add (i * 3)) = some (.int .i64 x.f0) ∧ W.cell? ⟨(ad.add (i * 3)).block, (ad.add (i * 3)).off + 1, none⟩ = some (.int .i64 x.f1) ∧ W.cell? ⟨(ad.add (i * 3)).block, (ad.add (i * 3)).off + 2, none⟩ = some (.slice A5 x.f2.length c5) from
            fun W hW => ⟨(hW.cell hadl).trans q0w, (hW.cell (p := ⟨(ad.add (i * 3)).block, (ad.add (i * 3)).off + 1, none⟩) hadl).trans q1w, (hW.cell (p := ⟨(ad.add (i * 3)).block, (ad.add (i * 3)).off + 2, none⟩) hadl).trans q2w⟩)
          have HPU := Aside0.mk (fun (W : World) (A0 A1 : Option Addr) (c0 c1 : Nat) (h : HoldS W A0 c0 A1 c1 v cs) (hW : Below w.heap.size w W) => stkPush h (Kd.C_below g5 hW) l5 HMO.out hxl)
          have HWA := Aside0.mk (fun (W : World) (A0 A1 : Option Addr) (c0 c1 : Nat) (h : HoldS W A0 c0 A1 c1 v cs) (hW : Below w.heap.size w W) => stkWantS h (Kd.C_below g5 hW) (cl := c5) HMO.out hxl)
          have HOP := Aside0.mk (fun (W : World) (A0 A1 : Option Addr) (c0 c1 : Nat) (h : HoldS W A0 c0 A1 c1 v cs) (hW : Below w.heap.size w W) => stkOpen h x.f1 (Kd.C_below g5 hW) l5 HMO.out hxl)
          subst hAd
          clear hx q0w q1w q2w g5 hadl hxl
          go_wp2
          refine rg_startL (n := 7) (S := fun w' => SB w w' [Box w5.heap.size #[.slice U0 v.length u0, .slice U1 ts.length u1] 39, Box w4.heap.size #[.slice A0 v.length c0, .slice A1 cs.length c1] 28] ∧ HoldS w' A0 c0 A1 c1 v cs ∧ HoldT w' U0 u0 U1 u1 v ts) (bm 7 0) (by kernel_rfl) rfl (by kernel_rfl) (⟨HQ.out.drew, HHQ.out.below (below_drew (Below.refl _ _)), HTQ.out.below (below_drew (Below.refl _ _))⟩) (fun wd10 hwd10 hHeld => ?_)
          refine rg_take (i := 0) (N := some 31) (v := ?_) (a' := ?_) (bm 7 1) rfl rfl (by kernel_rfl) (fun _ _ _ h => h) hHeld (Or.inl ⟨by rfl, ?_⟩) ?_ ?_
          rotate_left
          · intro w' hw'
            have x1 := SB.boxAt w4.heap.size 28 hw'.1
            have s0 := blk_cell x1 0
            have s1 := blk_cell x1 1
            obtain ⟨r0, r1, r2⟩ := HAC.out w' hw'.1.bel
            go_simp
            with_reducible rfl
          rotate_left
          · simp only [Act.put, List.setIfInBounds_toArray, List.set_cons_zero, List.set_cons_succ]
            rfl
          refine rg_take (i := 1) (N := some 32) (v := ?_) (a' := ?_) (bm 7 3) rfl rfl (by kernel_rfl) (fun _ _ _ h => h) hHeld (Or.inl ⟨by rfl, ?_⟩) ?_ ?_
          rotate_left
          · intro w' hw'
            have x1 := SB.boxAt w4.heap.size 28 hw'.1
            have s0 := blk_cell x1 0
            have s1 := blk_cell x1 1
            obtain ⟨r0, r1, r2⟩ := HAC.out w' hw'.1.bel
            go_simp
            with_reducible rfl
          rotate_left
          · simp only [Act.put, List.setIfInBounds_toArray, List.set_cons_zero, List.set_cons_succ]
            rfl
          refine rg_take (i := 2) (N := some 33) (v := ?_) (a' := ?_) (bm 7 7) rfl rfl (by kernel_rfl) (fun _ _ _ h => h) hHeld (Or.inl ⟨by rfl, ?_⟩) ?_ ?_
          rotate_left
          · intro w' hw'
            have x1 := SB.boxAt w4.heap.size 28 hw'.1
            have s0 := blk_cell x1 0
            have s1 := blk_cell x1 1
            obtain ⟨r0, r1, r2⟩ := HAC.out w' hw'.1.bel
            go_simp
            with_reducible rfl
          rotate_left
          · simp only [Act.put, List.setIfInBounds_toArray, List.set_cons_zero, List.set_cons_succ]
            rfl
          refine rg_take (i := 3) (N := some 34) (v := ?_) (a' := ?_) (bm 7 15) rfl rfl (by kernel_rfl) (fun _ _ _ h => h) hHeld (Or.inl ⟨by rfl, ?_⟩) ?_ ?_
          rotate_left
          · intro w' hw'
            have x1 := SB.boxAt w4.heap.size 28 hw'.1
            have s0 := blk_cell x1 0
            have s1 := blk_cell x1 1
            obtain ⟨r0, r1, r2⟩ := HAC.out w' hw'.1.bel
            go_simp
            with_reducible rfl
          rotate_left
          · simp only [Act.put, List.setIfInBounds_toArray, List.set_cons_zero, List.set_cons_succ]
            rfl
          refine rg_take (i := 4) (N := some 35) (v := ?_) (a' := ?_) (bm 7 31) rfl rfl (by kernel_rfl) (fun _ _ _ h => h) hHeld (Or.inl ⟨by rfl, ?_⟩) ?_ ?_
          rotate_left
          · intro w' hw'
            have x1 := SB.boxAt w4.heap.size 28 hw'.1
            have s0 := blk_cell x1 0
            have s1 := blk_cell x1 1
            obtain ⟨r0, r1, r2⟩ := HAC.out w' hw'.1.bel
            go_simp
            with_reducible rfl
          rotate_left
          · simp only [Act.put, List.setIfInBounds_toArray, List.set_cons_zero, List.set_cons_succ]
            rfl
          refine rg_take (i := 5) (N := some 36) (v := ?_) (a' := ?_) (bm 7 63) rfl rfl (by kernel_rfl) (fun _ _ _ h => h) hHeld (Or.inl ⟨by rfl, ?_⟩) ?_ ?_
          rotate_left
          · intro w' hw'
            have x1 := SB.boxAt w4.heap.size 28 hw'.1
            have s0 := blk_cell x1 0
            have s1 := blk_cell x1 1
            obtain ⟨r0, r1, r2⟩ := HAC.out w' hw'.1.bel
            go_simp
            with_reducible rfl
          rotate_left
          · simp only [Act.put, List.setIfInBounds_toArray, List.set_cons_zero, List.set_cons_succ]
            rfl
          refine rg_ready [6] (by kernel_rfl) (by simp) ?_
          refine rg_one (i := 6) (N := some 37) (bm 7 127) rfl rfl (by kernel_rfl) (fun K hK => ?_) rg_nil
          go_simp
          go_at_call 13
          with_reducible refine (HPU.out _ _ _ _ _ hHeld.2.1 hHeld.1.bel).mono ?_
          rintro e wx6r10 ⟨B0, d0, B1, d1, rfl, _, hb⟩
          have hnew := And.intro (hHeld.1.below hb) (And.intro (hHeld.2.1.below hb) (hHeld.2.2.below hb))
          clear hb
          go_wp2_with fail
          obtain ⟨wq10, hwq10⟩ : ∃ W, wx6r10 = W := ⟨_, rfl⟩
          refine hK.out _ _ hnew ?_
          clear hK K
          refine rg_norm (a' := ?_) ?_ ?_
          rotate_left
          · simp only [Act.put, List.setIfInBounds_toArray, List.set_cons_zero, List.set_cons_succ]
            rfl
          clear hHeld
          have hHeld := hnew
          clear hnew
          refine rg_done (by kernel_rfl) ?_
          rw [hwq10] at hHeld ⊢
          clear hwq10 HQ HHQ HTQ
          have HQ := Aside0.mk hHeld.1
          have HHQ := Aside0.mk hHeld.2.1
          have HTQ := Aside0.mk hHeld.2.2
          clear hHeld
          have x1 := SB.boxAt w4.heap.size 28 HQ.out
          have k0 := blk_cell x1 0
          have k1 := blk_cell x1 1
          clear x1
          go_wp2_with (go_at_call 20; (with_reducible refine (HPO.out _ _ _ _ _ HHQ.out).mono ?_); rintro e wp20 ⟨B0, d0, B1, d1, rfl, _, hb⟩; have HQ2 := Aside0.mk (HQ.out.below hb); have HHQ2 := Aside0.mk (HHQ.out.below hb); have HTQ2 := Aside0.mk (HTQ.out.below hb); clear hb HQ HHQ HTQ; have HQ := HQ2; have HHQ := HHQ2; have HTQ := HTQ2; clear HQ2 HHQ2 HTQ2; have x1 := SB.boxAt w4.heap.size 28 HQ.out; have k0 := blk_cell x1 0; have k1 := blk_cell x1 1; clear x1)
          refine rg_startL (n := 7) (S := fun w' => SB w w' [Box w5.heap.size #[.slice U0 v.length u0, .slice U1 ts.length u1] 39, Box w4.heap.size #[.slice A0 v.length c0, .slice A1 cs.length c1] 28] ∧ HoldS w' A0 c0 A1 c1 v cs ∧ HoldT w' U0 u0 U1 u1 v ts) (bm 7 0) (by kernel_rfl) rfl (by kernel_rfl) (⟨HQ.out.drew, HHQ.out.below (below_drew (Below.refl _ _)), HTQ.out.below (below_drew (Below.refl _ _))⟩) (fun wd12 hwd12 hHeld => ?_)
          refine rg_take (i := 0) (N := some 40) (v := ?_) (a' := ?_) (bm 7 1) rfl rfl (by kernel_rfl) (fun _ _ _ h => h) hHeld (Or.inl ⟨by rfl, ?_⟩) ?_ ?_
          rotate_left
          · intro w' hw'
            have x1 := SB.boxAt w4.heap.size 28 hw'.1
            have s0 := blk_cell x1 0
            have s1 := blk_cell x1 1
            obtain ⟨r0, r1, r2⟩ := HAC.out w' hw'.1.bel
            go_simp
            with_reducible rfl
          rotate_left
          · simp only [Act.put, List.setIfInBounds_toArray, List.set_cons_zero, List.set_cons_succ]
            rfl
          refine rg_take (i := 1) (N := some 41) (v := ?_) (a' := ?_) (bm 7 3) rfl rfl (by kernel_rfl) (fun _ _ _ h => h) hHeld (Or.inl ⟨by rfl, ?_⟩) ?_ ?_
          rotate_left
          · intro w' hw'
            have x1 := SB.boxAt w4.heap.size 28 hw'.1
            have s0 := blk_cell x1 0
            have s1 := blk_cell x1 1
            obtain ⟨r0, r1, r2⟩ := HAC.out w' hw'.1.bel
            go_simp
            with_reducible rfl
          rotate_left
          · simp only [Act.put, List.setIfInBounds_toArray, List.set_cons_zero, List.set_cons_succ]
            rfl
          refine rg_take (i := 2) (N := some 42) (v := ?_) (a' := ?_) (bm 7 7) rfl rfl (by kernel_rfl) (fun _ _ _ h => h) hHeld (Or.inl ⟨by rfl, ?_⟩) ?_ ?_
          rotate_left
          · intro w' hw'
            have x1 := SB.boxAt w4.heap.size 28 hw'.1
            have s0 := blk_cell x1 0
            have s1 := blk_cell x1 1
            obtain ⟨r0, r1, r2⟩ := HAC.out w' hw'.1.bel
            go_simp
            with_reducible rfl
          rotate_left
          · simp only [Act.put, List.setIfInBounds_toArray, List.set_cons_zero, List.set_cons_succ]
            rfl
          refine rg_take (i := 3) (N := some 43) (v := ?_) (a' := ?_) (bm 7 15) rfl rfl (by kernel_rfl) (fun _ _ _ h => h) hHeld (Or.inl ⟨by rfl, ?_⟩) ?_ ?_
          rotate_left
          · intro w' hw'
            have x1 := SB.boxAt w4.heap.size 28 hw'.1
            have s0 := blk_cell x1 0
            have s1 := blk_cell x1 1
            obtain ⟨r0, r1, r2⟩ := HAC.out w' hw'.1.bel
            go_simp
            with_reducible rfl
          rotate_left
          · simp only [Act.put, List.setIfInBounds_toArray, List.set_cons_zero, List.set_cons_succ]
            rfl
          refine rg_take (i := 4) (N := some 44) (v := ?_) (a' := ?_) (bm 7 31) rfl rfl (by kernel_rfl) (fun _ _ _ h => h) hHeld (Or.inl ⟨by rfl, ?_⟩) ?_ ?_
          rotate_left
          · intro w' hw'
            have x1 := SB.boxAt w4.heap.size 28 hw'.1
            have s0 := blk_cell x1 0
            have s1 := blk_cell x1 1
            obtain ⟨r0, r1, r2⟩ := HAC.out w' hw'.1.bel
            go_simp
            with_reducible rfl
          rotate_left
          · simp only [Act.put, List.setIfInBounds_toArray, List.set_cons_zero, List.set_cons_succ]
            rfl
          refine rg_take (i := 5) (N := some 45) (v := ?_) (a' := ?_) (bm 7 63) rfl rfl (by kernel_rfl) (fun _ _ _ h => h) hHeld (Or.inl ⟨by rfl, ?_⟩) ?_ ?_
          rotate_left
          · intro w' hw'
            have x1 := SB.boxAt w4.heap.size 28 hw'.1
            have s0 := blk_cell x1 0
            have s1 := blk_cell x1 1
            obtain ⟨r0, r1, r2⟩ := HAC.out w' hw'.1.bel
            go_simp
            with_reducible rfl
          rotate_left
          · simp only [Act.put, List.setIfInBounds_toArray, List.set_cons_zero, List.set_cons_succ]
            rfl
          refine rg_ready [6] (by kernel_rfl) (by simp) ?_
          refine rg_one (i := 6) (N := some 46) (bm 7 127) rfl rfl (by kernel_rfl) (fun K hK => ?_) rg_nil
          go_simp
          go_at_call 14
          with_reducible refine (HWA.out _ _ _ _ _ hHeld.2.1 hHeld.1.bel).mono ?_
          rintro e wx6r12 ⟨B0, d0, B1, d1, rfl, _, hb⟩
          have hnew := And.intro (hHeld.1.below hb) (And.intro (hHeld.2.1.below hb) (hHeld.2.2.below hb))
          clear hb
          go_wp2_with fail
          obtain ⟨wq12, hwq12⟩ : ∃ W, wx6r12 = W := ⟨_, rfl⟩
          refine hK.out _ _ hnew ?_
          clear hK K
          refine rg_norm (a' := ?_) ?_ ?_
          rotate_left
          · simp only [Act.put, List.setIfInBounds_toArray, List.set_cons_zero, List.set_cons_succ]
            rfl
          clear hHeld
          have hHeld := hnew
          clear hnew
          refine rg_done (by kernel_rfl) ?_
          rw [hwq12] at hHeld ⊢
          clear hwq12 HQ HHQ HTQ
          have HQ := Aside0.mk hHeld.1
          have HHQ := Aside0.mk hHeld.2.1
          have HTQ := Aside0.mk hHeld.2.2
          clear hHeld
          have x1 := SB.boxAt w4.heap.size 28 HQ.out
          have k0 := blk_cell x1 0
          have k1 := blk_cell x1 1
          clear x1
          go_wp2
          refine rg_startL (n := 12) (S := fun w' => SB w w' [Box w5.heap.size #[.slice U0 v.length u0, .slice U1 ts.length u1] 39, Box w4.heap.size #[.slice A0 v.length c0, .slice A1 cs.length c1] 28] ∧ HoldS w' A0 c0 A1 c1 v cs ∧ HoldT w' U0 u0 U1 u1 v ts) (bm 12 0) (by kernel_rfl) rfl (by kernel_rfl) (⟨HQ.out.drew, HHQ.out.below (below_drew (Below.refl _ _)), HTQ.out.below (below_drew (Below.refl _ _))⟩) (fun wd13 hwd13 hHeld => ?_)
          refine rg_take (i := 0) (N := some 47) (v := ?_) (a' := ?_) (bm 12 1) rfl rfl (by kernel_rfl) (fun _ _ _ h => h) hHeld (Or.inl ⟨by rfl, ?_⟩) ?_ ?_
          rotate_left
          · intro w' hw'
            have x1 := SB.boxAt w4.heap.size 28 hw'.1
            have s0 := blk_cell x1 0
            have s1 := blk_cell x1 1
            obtain ⟨r0, r1, r2⟩ := HAC.out w' hw'.1.bel
            go_simp
            with_reducible rfl
          rotate_left
          · simp only [Act.put, List.setIfInBounds_toArray, List.set_cons_zero, List.set_cons_succ]
            rfl
          refine rg_take (i := 1) (N := some 48) (v := ?_) (a' := ?_) (bm 12 3) rfl rfl (by kernel_rfl) (fun _ _ _ h => h) hHeld (Or.inl ⟨by rfl, ?_⟩) ?_ ?_
          rotate_left
          · intro w' hw'
            have x1 := SB.boxAt w4.heap.size 28 hw'.1
            have s0 := blk_cell x1 0
            have s1 := blk_cell x1 1
            obtain ⟨r0, r1, r2⟩ := HAC.out w' hw'.1.bel
            go_simp
            with_reducible rfl
          rotate_left
          · simp only [Act.put, List.setIfInBounds_toArray, List.set_cons_zero, List.set_cons_succ]
            rfl
          refine rg_take (i := 2) (N := some 49) (v := ?_) (a' := ?_) (bm 12 7) rfl rfl (by kernel_rfl) (fun _ _ _ h => h) hHeld (Or.inl ⟨by rfl, ?_⟩) ?_ ?_
          rotate_left
          · intro w' hw'
            have x1 := SB.boxAt w4.heap.size 28 hw'.1
            have s0 := blk_cell x1 0
            have s1 := blk_cell x1 1
            obtain ⟨r0, r1, r2⟩ := HAC.out w' hw'.1.bel
            go_simp
            with_reducible rfl
          rotate_left
          · simp only [Act.put, List.setIfInBounds_toArray, List.set_cons_zero, List.set_cons_succ]
            rfl
          refine rg_take (i := 3) (N := some 50) (v := ?_) (a' := ?_) (bm 12 15) rfl rfl (by kernel_rfl) (fun _ _ _ h => h) hHeld (Or.inl ⟨by rfl, ?_⟩) ?_ ?_
          rotate_left
          · intro w' hw'
            have x1 := SB.boxAt w4.heap.size 28 hw'.1
            have s0 := blk_cell x1 0
            have s1 := blk_cell x1 1
            obtain ⟨r0, r1, r2⟩ := HAC.out w' hw'.1.bel
            go_simp
            with_reducible rfl
          rotate_left
          · simp only [Act.put, List.setIfInBounds_toArray, List.set_cons_zero, List.set_cons_succ]
            rfl
          refine rg_take (i := 4) (N := some 51) (v := ?_) (a' := ?_) (bm 12 31) rfl rfl (by kernel_rfl) (fun _ _ _ h => h) hHeld (Or.inl ⟨by rfl, ?_⟩) ?_ ?_
          rotate_left
          · intro w' hw'
            have x1 := SB.boxAt w4.heap.size 28 hw'.1
            have s0 := blk_cell x1 0
            have s1 := blk_cell x1 1
            obtain ⟨r0, r1, r2⟩ := HAC.out w' hw'.1.bel
            go_simp
            with_reducible rfl
          rotate_left
          · simp only [Act.put, List.setIfInBounds_toArray, List.set_cons_zero, List.set_cons_succ]
            rfl
          refine rg_take (i := 5) (N := some 52) (v := ?_) (a' := ?_) (bm 12 63) rfl rfl (by kernel_rfl) (fun _ _ _ h => h) hHeld (Or.inl ⟨by rfl, ?_⟩) ?_ ?_
          rotate_left
          · intro w' hw'
            have x1 := SB.boxAt w4.heap.size 28 hw'.1
            have s0 := blk_cell x1 0
            have s1 := blk_cell x1 1
            obtain ⟨r0, r1, r2⟩ := HAC.out w' hw'.1.bel
            go_simp
            with_reducible rfl
          rotate_left
          · simp only [Act.put, List.setIfInBounds_toArray, List.set_cons_zero, List.set_cons_succ]
            rfl
          refine rg_take (i := 6) (N := some 53) (v := ?_) (a' := ?_) (bm 12 127) rfl rfl (by kernel_rfl) (fun _ _ _ h => h) hHeld (Or.inl ⟨by rfl, ?_⟩) ?_ ?_
          rotate_left
          · intro w' hw'
            have x1 := SB.boxAt w4.heap.size 28 hw'.1
            have s0 := blk_cell x1 0
            have s1 := blk_cell x1 1
            obtain ⟨r0, r1, r2⟩ := HAC.out w' hw'.1.bel
            go_simp
            with_reducible rfl
          rotate_left
          · simp only [Act.put, List.setIfInBounds_toArray, List.set_cons_zero, List.set_cons_succ]
            rfl
          refine rg_take (i := 7) (N := some 54) (v := ?_) (a' := ?_) (bm 12 255) rfl rfl (by kernel_rfl) (fun _ _ _ h => h) hHeld (Or.inl ⟨by rfl, ?_⟩) ?_ ?_
          rotate_left
          · intro w' hw'
            have x1 := SB.boxAt w4.heap.size 28 hw'.1
            have s0 := blk_cell x1 0
            have s1 := blk_cell x1 1
            obtain ⟨r0, r1, r2⟩ := HAC.out w' hw'.1.bel
            go_simp
            with_reducible rfl
          rotate_left
          · simp only [Act.put, List.setIfInBounds_toArray, List.set_cons_zero, List.set_cons_succ]
            rfl
          refine rg_take (i := 8) (N := some 55) (v := ?_) (a' := ?_) (bm 12 511) rfl rfl (by kernel_rfl) (fun _ _ _ h => h) hHeld (Or.inl ⟨by rfl, ?_⟩) ?_ ?_
          rotate_left
          · intro w' hw'
            have x1 := SB.boxAt w4.heap.size 28 hw'.1
            have s0 := blk_cell x1 0
            have s1 := blk_cell x1 1
            obtain ⟨r0, r1, r2⟩ := HAC.out w' hw'.1.bel
            go_simp
            with_reducible rfl
          rotate_left
          · simp only [Act.put, List.setIfInBounds_toArray, List.set_cons_zero, List.set_cons_succ]
            rfl
          refine rg_take (i := 9) (N := some 56) (v := ?_) (a' := ?_) (bm 12 1023) rfl rfl (by kernel_rfl) (fun _ _ _ h => h) hHeld (Or.inl ⟨by rfl, ?_⟩) ?_ ?_
          rotate_left
          · intro w' hw'
            have x1 := SB.boxAt w4.heap.size 28 hw'.1
            have s0 := blk_cell x1 0
            have s1 := blk_cell x1 1
            obtain ⟨r0, r1, r2⟩ := HAC.out w' hw'.1.bel
            go_simp
            with_reducible rfl
          rotate_left
          · simp only [Act.put, List.setIfInBounds_toArray, List.set_cons_zero, List.set_cons_succ]
            rfl
          refine rg_take (i := 10) (N := some 57) (v := ?_) (a' := ?_) (bm 12 2047) rfl rfl (by kernel_rfl) (fun _ _ _ h => h) hHeld (Or.inl ⟨by rfl, ?_⟩) ?_ ?_
          rotate_left
          · intro w' hw'
            have x1 := SB.boxAt w4.heap.size 28 hw'.1
            have s0 := blk_cell x1 0
            have s1 := blk_cell x1 1
            obtain ⟨r0, r1, r2⟩ := HAC.out w' hw'.1.bel
            go_simp
            with_reducible rfl
          rotate_left
          · simp only [Act.put, List.setIfInBounds_toArray, List.set_cons_zero, List.set_cons_succ]
            rfl
          refine rg_ready [11] (by kernel_rfl) (by simp) ?_
          refine rg_one (i := 11) (N := some 58) (bm 12 4095) rfl rfl (by kernel_rfl) (fun K hK => ?_) rg_nil
          go_simp
          go_at_call 17
          with_reducible refine (HOP.out _ _ _ _ _ hHeld.2.1 hHeld.1.bel).mono ?_
          rintro e wx11r13 ⟨B0, d0, B1, d1, rfl, _, hb⟩
          have hnew := And.intro (hHeld.1.below hb) (And.intro (hHeld.2.1.below hb) (hHeld.2.2.below hb))
          clear hb
          go_wp2_with fail
          obtain ⟨wq13, hwq13⟩ : ∃ W, wx11r13 = W := ⟨_, rfl⟩
          refine hK.out _ _ hnew ?_
          clear hK K
          refine rg_norm (a' := ?_) ?_ ?_
          rotate_left
          · simp only [Act.put, List.setIfInBounds_toArray, List.set_cons_zero, List.set_cons_succ]
            rfl
          clear hHeld
          have hHeld := hnew
          clear hnew
          refine rg_done (by kernel_rfl) ?_
          rw [hwq13] at hHeld ⊢
          clear hwq13 HQ HHQ HTQ
          have HQ := Aside0.mk hHeld.1
          have HHQ := Aside0.mk hHeld.2.1
          have HTQ := Aside0.mk hHeld.2.2
          clear hHeld
          have x1 := SB.boxAt w4.heap.size 28 HQ.out
          have k0 := blk_cell x1 0
          have k1 := blk_cell x1 1
          clear x1
          go_wp2_with (first
            | (go_at_call 18; (with_reducible refine (HCL.out _ _ _ _ _ HHQ.out).mono ?_); rintro e wp18 ⟨B0, d0, B1, d1, Be, ke, rfl, _, _, _, hb⟩; have HQ2 := Aside0.mk (HQ.out.below hb); have HHQ2 := Aside0.mk (HHQ.out.below hb); have HTQ2 := Aside0.mk (HTQ.out.below hb); clear hb HQ HHQ HTQ; have HQ := HQ2; have HHQ := HHQ2; have HTQ := HTQ2; clear HQ2 HHQ2 HTQ2; have x1 := SB.boxAt w4.heap.size 28 HQ.out; have k0 := blk_cell x1 0; have k1 := blk_cell x1 1; clear x1)
            | (go_at_call 21; (with_reducible refine (HKI.out _ _ _ _ _ HHQ.out).mono ?_); rintro e wp21 ⟨B0, d0, B1, d1, rfl, _, hb⟩; have HQ2 := Aside0.mk (HQ.out.below hb); have HHQ2 := Aside0.mk (HHQ.out.below hb); have HTQ2 := Aside0.mk (HTQ.out.below hb); clear hb HQ HHQ HTQ; have HQ := HQ2; have HHQ := HHQ2; have HTQ := HTQ2; clear HQ2 HHQ2 HTQ2; have x1 := SB.boxAt w4.heap.size 28 HQ.out; have k0 := blk_cell x1 0; have k1 := blk_cell x1 1; clear x1))
          go_roundw
          case rel => exact ⟨i + 1, by go_num, by omega, ⟨HQ.out⟩, ⟨HHQ.out⟩, ⟨HTQ.out⟩⟩
          case measure => simp [intOf]; omega
        · have d1 : decide ((i : Int) < (o.length : Int)) = false := decide_eq_false (by omega)
          have d2 : decide (i < o.length) = false := decide_eq_false hlt
          go_wp2
          have hS16 : SB w wr.drew [Box w5.heap.size #[.slice U0 v.length u0, .slice U1 ts.length u1] 39, Box w4.heap.size #[.slice A0 v.length c0, .slice A1 cs.length c1] 28] ∧ HoldS wr.drew A0 c0 A1 c1 v cs ∧ HoldT wr.drew U0 u0 U1 u1 v ts := ⟨HQ.out.drew, HHQ.out.below (below_drew (Below.refl _ _)), HTQ.out.below (below_drew (Below.refl _ _))⟩
          refine rg_startL (n := 8) (S := fun w' => SB w w' [Box w5.heap.size #[.slice U0 v.length u0, .slice U1 ts.length u1] 39, Box w4.heap.size #[.slice A0 v.length c0, .slice A1 cs.length c1] 28] ∧ HoldS w' A0 c0 A1 c1 v cs ∧ HoldT w' U0 u0 U1 u1 v ts) (bm 8 0) (by kernel_rfl) rfl (by kernel_rfl) (hS16) (fun wd hwd hHeld => ?_)
          refine rg_take (i := 0) (N := some 63) (v := ?_) (a' := ?_) (bm 8 1) rfl rfl (by kernel_rfl) (fun _ _ _ h => h) hHeld (Or.inl ⟨by rfl, ?_⟩) ?_ ?_
          rotate_left
          · intro w' hw'
            have x1 := SB.boxAt w4.heap.size 28 hw'.1
            have s0 := blk_cell x1 0
            have s1 := blk_cell x1 1
            have x2 := SB.boxAt w5.heap.size 39 hw'.1
            have r0 := blk_cell x2 0
            have r1 := blk_cell x2 1
            go_simp
            with_reducible rfl
          rotate_left
          · simp only [Act.put, List.setIfInBounds_toArray, List.set_cons_zero, List.set_cons_succ]
            rfl
          refine rg_take (i := 1) (N := some 64) (v := ?_) (a' := ?_) (bm 8 3) rfl rfl (by kernel_rfl) (fun _ _ _ h => h) hHeld (Or.inl ⟨by rfl, ?_⟩) ?_ ?_
          rotate_left
          · intro w' hw'
            have x1 := SB.boxAt w4.heap.size 28 hw'.1
            have s0 := blk_cell x1 0
            have s1 := blk_cell x1 1
            have x2 := SB.boxAt w5.heap.size 39 hw'.1
            have r0 := blk_cell x2 0
            have r1 := blk_cell x2 1
            go_simp
            with_reducible rfl
          rotate_left
          · simp only [Act.put, List.setIfInBounds_toArray, List.set_cons_zero, List.set_cons_succ]
            rfl
          refine rg_take (i := 2) (N := some 65) (v := ?_) (a' := ?_) (bm 8 7) rfl rfl (by kernel_rfl) (fun _ _ _ h => h) hHeld (Or.inl ⟨by rfl, ?_⟩) ?_ ?_
          rotate_left
          · intro w' hw'
            have x1 := SB.boxAt w4.heap.size 28 hw'.1
            have s0 := blk_cell x1 0
            have s1 := blk_cell x1 1
            have x2 := SB.boxAt w5.heap.size 39 hw'.1
            have r0 := blk_cell x2 0
            have r1 := blk_cell x2 1
            go_simp
            with_reducible rfl
          rotate_left
          · simp only [Act.put, List.setIfInBounds_toArray, List.set_cons_zero, List.set_cons_succ]
            rfl
          refine rg_take (i := 4) (N := some 67) (v := ?_) (a' := ?_) (bm 8 23) rfl rfl (by kernel_rfl) (fun _ _ _ h => h) hHeld (Or.inl ⟨by rfl, ?_⟩) ?_ ?_
          rotate_left
          · intro w' hw'
            have x1 := SB.boxAt w4.heap.size 28 hw'.1
            have s0 := blk_cell x1 0
            have s1 := blk_cell x1 1
            have x2 := SB.boxAt w5.heap.size 39 hw'.1
            have r0 := blk_cell x2 0
            have r1 := blk_cell x2 1
            go_simp
            with_reducible rfl
          rotate_left
          · simp only [Act.put, List.setIfInBounds_toArray, List.set_cons_zero, List.set_cons_succ]
            rfl
          refine rg_ready [3] (by kernel_rfl) (by simp) ?_
          refine rg_one (i := 3) (N := some 66) (bm 8 31) rfl rfl (by kernel_rfl) (fun K hK => ?_) rg_nil
          go_simp
          go_at_call 16
          with_reducible refine (HTH.out _ _ _ _ _ hHeld.2.1).mono ?_
          rintro e wx3r16 ⟨T1, t1, rfl, hT, hb⟩
          have HT4 := Aside0.mk hT
          have hnew := And.intro (hHeld.1.below hb) (And.intro (hHeld.2.1.below hb) (hHeld.2.2.below hb))
          clear hT hb
          go_wp2_with fail
          refine hK.out _ _ hnew ?_
          clear hK K
          refine rg_norm (a' := ?_) ?_ ?_
          rotate_left
          · simp only [Act.put, List.setIfInBounds_toArray, List.set_cons_zero, List.set_cons_succ]
            rfl
          clear hHeld
          have hHeld := hnew
          clear hnew
          refine rg_ready [5] (by kernel_rfl) (by simp) ?_
          refine rg_one (i := 5) (N := some 68) (bm 8 63) rfl rfl (by kernel_rfl) (fun K hK => ?_) rg_nil
          go_simp
          go_at_call 15
          with_reducible refine (HSM.out _ _ _ _ _ _ _ _ _ HT4.out hHeld.2.2).mono ?_
          rintro e wx3x5r16 ⟨rfl, hb⟩
          have hnew := And.intro (hHeld.1.below hb) (And.intro (hHeld.2.1.below hb) (hHeld.2.2.below hb))
          clear hb
          go_wp2_with fail
          refine hK.out _ _ hnew ?_
          clear hK K
          refine rg_norm (a' := ?_) ?_ ?_
          rotate_left
          · simp only [Act.put, List.setIfInBounds_toArray, List.set_cons_zero, List.set_cons_succ]
            rfl
          clear hHeld
          have hHeld := hnew
          clear hnew
          refine rg_take (i := 6) (N := some 69) (v := ?_) (a' := ?_) (bm 8 127) rfl rfl (by kernel_rfl) (fun _ _ _ h => h) hHeld (Or.inl ⟨by rfl, ?_⟩) ?_ ?_
          rotate_left
          · intro w' hw'
            have x1 := SB.boxAt w4.heap.size 28 hw'.1
            have s0 := blk_cell x1 0
            have s1 := blk_cell x1 1
            have x2 := SB.boxAt w5.heap.size 39 hw'.1
            have r0 := blk_cell x2 0
            have r1 := blk_cell x2 1
            go_simp
            with_reducible rfl
          rotate_left
          · simp only [Act.put, List.setIfInBounds_toArray, List.set_cons_zero, List.set_cons_succ]
            rfl
          refine rg_take (i := 7) (N := some 4) (v := ?_) (a' := ?_) (bm 8 255) rfl rfl (by kernel_rfl) (fun _ _ _ h => h) hHeld (Or.inl ⟨by rfl, ?_⟩) ?_ ?_
          rotate_left
          · intro w' hw'
            have x1 := SB.boxAt w4.heap.size 28 hw'.1
            have s0 := blk_cell x1 0
            have s1 := blk_cell x1 1
            have x2 := SB.boxAt w5.heap.size 39 hw'.1
            have r0 := blk_cell x2 0
            have r1 := blk_cell x2 1
            go_simp
            with_reducible rfl
          rotate_left
          · simp only [Act.put, List.setIfInBounds_toArray, List.set_cons_zero, List.set_cons_succ]
            rfl
          refine rg_done (by kernel_rfl) ?_
          go_wp2
          go_ret
          exact ⟨rfl, hHeld.1.bel⟩
def avocetlaw09_StackApart.f (l0 : List (S47)) (l1 : List (S47)) : Option (Bool) := some true
theorem avocetlaw09_StackApart.calls (A0 : Option Addr) (c0 : Nat) (l0 : List (S47)) (A1 : Option Addr) (c1 : Nat) (l1 : List (S47)) (r : Bool) (w : World) (hr0 : Kd.C k47 w A0 l0.length l0) (hc0 : l0.length ≤ c0) (hr1 : Kd.C k47 w A1 l1.length l1) (hc1 : l1.length ≤ c1) (hr_ : r = true) (h : avocetlaw09_StackApart.f l0 l1 = some r) :
    Calls Try.prog 5 #[.slice A0 l0.length c0, .slice A1 l1.length c1] w fun e w' => e = .returned (.bool r) ∧ Below w.heap.size w w' := by
  subst hr_
  exact stackApart A0 c0 l0 A1 c1 l1 w hr0 hc0 hr1 hc1
end Go.Proofs.Ytagblobimoedcaa.G
