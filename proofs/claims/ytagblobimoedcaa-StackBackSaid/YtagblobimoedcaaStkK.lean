/- What grows by things that are done. -/
import Derived.Test.YtagblobimoedcaaStkJ
namespace Go.Proofs.Ytagblobimoedcaa.G
open Go.RowKit Go.Proofs.YtagblobimoedcaaW.PrintWords Go.Proofs.YtagblobimoedcaaW.PrintLast Go.Proofs.YtagblobimoedcaaW.PrintMore
set_option linter.unusedVariables false
set_option linter.unusedSimpArgs false
/-- A variable that holds slices alone holds nobody's numbers. -/
def Slices (cs : Array Value) : Prop := ∀ (i : Nat) (u : Value), cs[i]? = some u → ∃ A n c, u = Value.slice A n c
theorem slices2 (A B : Option Addr) (n m c d : Nat) : Slices #[.slice A n c, .slice B m d] := by
  intro i u h
  match i with
  | 0 => simp at h; exact ⟨_, _, _, h.symm⟩
  | 1 => simp at h; exact ⟨_, _, _, h.symm⟩
  | i + 2 => simp at h
theorem int_far {w : World} {B t : Nat} {cs : Array Value} (hb : w.heap[B]? = some (.cells cs t (0, 0))) (hs : Slices cs) {a : Addr} {k : IntKind} {x : Int} (h : w.cell? a = some (.int k x)) : a.block ≠ B := by
  intro e
  unfold World.cell? at h
  rw [e, hb] at h
  simp only at h
  split at h
  · exact absurd h (by simp)
  · obtain ⟨A, n, c, hu⟩ := hs _ _ h
    cases hu
theorem cell_set {w : World} {B i : Nat} {u : Value} {a : Addr} (h : a.block ≠ B) : (w.setCell ⟨B, i, none⟩ u).cell? a = w.cell? a := cell_of_heapA (Below.heap_setCell w ⟨B, i, none⟩ u a.block h)
theorem Cint_set {w : World} {B t i : Nat} {cs : Array Value} {u : Value} (hb : w.heap[B]? = some (.cells cs t (0, 0))) (hs : Slices cs) {k : IntKind} {A : Option Addr} {n : Nat} {xs : List Int} (h : Kd.C (Kd.int k) w A n xs) : Kd.C (Kd.int k) (w.setCell ⟨B, i, none⟩ u) A n xs := by
  refine ⟨h.1, h.2.1, fun hn => ?_⟩
  obtain ⟨ad, e, hc⟩ := h.2.2 hn
  refine ⟨ad, e, fun j p hj => ?_⟩
  obtain ⟨c, l1, l2, l3⟩ := hc j p hj
  refine ⟨c, l1, l2, fun i' u' hu => ?_⟩
  have h1 := l3 i' u' hu
  have h2 : c = [Value.int k p] := l2
  have h3 : u' = .int k p := by
    rw [h2] at hu
    match i' with
    | 0 => simp at hu; exact hu.symm
    | i' + 1 => simp at hu
  rw [cell_set (int_far hb hs (h3 ▸ h1))]
  exact h1
theorem Cctl_set {w : World} {B t i : Nat} {cs : Array Value} {u : Value} (hb : w.heap[B]? = some (.cells cs t (0, 0))) (hs : Slices cs) {A : Option Addr} {n : Nat} {xs : List S31} (h : Kd.C k31 w A n xs) : Kd.C k31 (w.setCell ⟨B, i, none⟩ u) A n xs := by
  refine ⟨h.1, h.2.1, fun hn => ?_⟩
  obtain ⟨ad, e, hc⟩ := h.2.2 hn
  refine ⟨ad, e, fun j p hj => ?_⟩
  obtain ⟨c, l1, l2, l3⟩ := hc j p hj
  obtain ⟨A1, c1, rfl, l4, g1⟩ := k31_open l2
  refine ⟨_, l1, k31_mk _ p l4 (Cint_set hb hs g1), fun i' u' hu => ?_⟩
  have h0 := l3 0 _ rfl
  have h4 := int_far hb hs h0
  rw [addBlk] at h4
  rw [cell_set (by rw [addBlk]; exact h4)]
  exact l3 i' u' hu
theorem HoldS.set {w : World} {B t i : Nat} {cs' : Array Value} {u : Value} (hb : w.heap[B]? = some (.cells cs' t (0, 0))) (hs : Slices cs') {A0 A1 : Option Addr} {c0 c1 : Nat} {v : List Int} {cs : List S31} (h : HoldS w A0 c0 A1 c1 v cs) : HoldS (w.setCell ⟨B, i, none⟩ u) A0 c0 A1 c1 v cs :=
  ⟨Cint_set hb hs h.hv, Cctl_set hb hs h.hc, h.lv, h.lc⟩
/-- both cells of such a variable are written. -/
theorem HoldS.set2 {w : World} {B t : Nat} {X Y : Option Addr} {n m c d : Nat} (hb : w.heap[B]? = some (.cells #[.slice X n c, .slice Y m d] t (0, 0))) {X' Y' : Option Addr} {n' m' c' d' : Nat} {A0 A1 : Option Addr} {c0 c1 : Nat} {v : List Int} {cs : List S31} (h : HoldS w A0 c0 A1 c1 v cs) :
    HoldS ((w.setCell ⟨B, 0, none⟩ (.slice X' n' c')).setCell ⟨B, 1, none⟩ (.slice Y' m' d')) A0 c0 A1 c1 v cs :=
  (h.set hb (slices2 _ _ _ _ _ _)).set (blk_set hb 0 (.slice X' n' c')) (slices2 _ _ _ _ _ _)
/-- one thing that is done. -/
def gTry (v : List Int) (cs : List S31) (x : S47) : List Int × List S31 × Int :=
  if x.f0 = 0 ∨ x.f0 = 1 then sPush v cs x.f2 else if x.f0 = 2 then ((sPop v cs).1, (sPop v cs).2.1, (sPop v cs).2.2.2) else if x.f0 = 3 ∨ x.f0 = 4 then sWant v cs x.f2 else
  if x.f0 = 5 then sOpen v cs x.f1 x.f2 else if x.f0 = 6 then ((sClose v cs).1, (sClose v cs).2.1, (sClose v cs).2.2.2) else if x.f0 = 7 then sKill v cs else (v, cs, 1)
def gStep (s : List Int × List S31) (x : S47) : List Int × List S31 := if (gTry s.1 s.2 x).2.2 = 0 then ((gTry s.1 s.2 x).1, (gTry s.1 s.2 x).2.1) else s
def gAll (l : List S47) : List Int × List S31 := l.foldl gStep ([], [])
theorem kPop_le (v : List Int) (h : Int) (d : Bool) : (kPop v h d).1.length ≤ v.length := by
  obtain ⟨m, hm, e⟩ := kPop_take v h d
  rw [e, List.length_take]; omega
theorem kWant_le (ts v : List Int) (h : Int) (d : Bool) : (kWant h d ts v).1.length ≤ v.length := by
  obtain ⟨m, hm, e⟩ := kWant_take (h := h) (d := d) ts v
  rw [e, List.length_take]; omega
theorem gTry_len (v : List Int) (cs : List S31) (x : S47) : (gTry v cs x).1.length ≤ v.length + x.f2.length ∧ (gTry v cs x).2.1.length ≤ cs.length + 1 := by
  unfold gTry
  split
  · unfold sPush; split <;> simp
  split
  · unfold sPop
    repeat' split
    all_goals simp
    have := kPop_le v (kTop cs).f2 (kTop cs).f3; omega
  split
  · unfold sWant
    repeat' split
    all_goals simp
    have := kWant_le x.f2.reverse v (kTop cs).f2 (kTop cs).f3; omega
  split
  · unfold sOpen; split <;> simp
  split
  · unfold sClose
    repeat' split
    all_goals simp
    have := kWant_le (kTop cs).f1.reverse v (kTop cs).f2 (kTop cs).f3; omega
  split
  · unfold sKill
    repeat' split
    all_goals simp
    refine ⟨?_, ?_⟩
    · omega
    · rw [kDead_len]; omega
  · simp
theorem gStep_len (s : List Int × List S31) (x : S47) : (gStep s x).1.length ≤ s.1.length + x.f2.length ∧ (gStep s x).2.length ≤ s.2.length + 1 := by
  unfold gStep
  split
  · exact gTry_len s.1 s.2 x
  · constructor <;> omega
theorem gAll_snoc (l : List S47) (i : Nat) (hi : i < l.length) : gAll (l.take (i + 1)) = gStep (gAll (l.take i)) l[i] := by
  unfold gAll
  rw [List.take_succ_eq_append_getElem hi, List.foldl_append]
  rfl
def fewA (l : List S47) : Prop := l.length ≤ 100 ∧ ∀ x ∈ l, x.f2.length ≤ 20
theorem gAll_len {l : List S47} (hf : fewA l) : ∀ i, i ≤ l.length → (gAll (l.take i)).1.length ≤ 20 * i ∧ (gAll (l.take i)).2.length ≤ i
  | 0, _ => by simp [gAll]
  | i + 1, hi => by
    have ih := gAll_len hf i (by omega)
    rw [gAll_snoc l i (by omega)]
    have h1 := gStep_len (gAll (l.take i)) l[i]
    have h2 := hf.2 l[i] (List.getElem_mem _)
    omega
theorem rd47 {l : List S47} {i : Nat} (h : i < l.length) : rd_T47 l (i : Int) = l[i] := by
  unfold rd_T47
  rw [Int.toNat_natCast, List.getD_eq_getElem?_getD, List.getElem?_eq_getElem h]
  rfl
set_option maxHeartbeats 16000000 in
set_option maxRecDepth 100000 in
theorem growns (A : Option Addr) (c : Nat) (l : List S47) (w : World) (hC : Kd.C k47 w A l.length l) (hf : fewA l) :
    Calls Try.prog 11 #[.slice A l.length c] w fun e w' => ∃ A0 c0 A1 c1, e = .returned (.agg #[.slice A0 (gAll l).1.length c0, .slice A1 (gAll l).2.length c1]) ∧ HoldS w' A0 c0 A1 c1 (gAll l).1 (gAll l).2 ∧ Below w.heap.size w w' := by
  have HC := Aside0.mk hC
  have hlen := hC.2.1
  clear hC
  have HW := Aside0.mk ((((SB.start w).box #[.slice none 0 0, .slice none 0 0] 28)).box #[.slice none 0 0, .slice none 0 0] 28)
  rw [World.size_alloc] at HW
  go_enter Try.func11, Try.ntmps11
  go_wp2
  go_loopw [4] (fun v4 wr => ∃ (i : Nat) (v : List Int) (cs : List S31) (A0 : Option Addr) (c0 : Nat) (A1 : Option Addr) (c1 : Nat), v4 = .int .i64 i ∧ i ≤ l.length ∧ Aside0 (gAll (l.take i) = (v, cs)) ∧
      Aside0 (SB w wr [Box (w.heap.size + 1) #[.slice A0 v.length c0, .slice A1 cs.length c1] 28, Box w.heap.size #[.slice none 0 0, .slice none 0 0] 28]) ∧ Aside0 (HoldS wr A0 c0 A1 c1 v cs)) (fun v4 _ => l.length - (intOf v4).toNat)
  case atStart => exact ⟨0, [], [], none, 0, none, 0, rfl, Nat.zero_le _, ⟨rfl⟩, ⟨HW.out⟩, ⟨holdNil _⟩⟩
  case round =>
    obtain ⟨i, v, cs, A0, c0, A1, c1, rfl, hi, HG, HWr, HH⟩ := hrel
    have x1 := SB.boxAt (w.heap.size + 1) 28 HWr.out
    have k0 := blk_cell x1 0
    have k1 := blk_cell x1 1
    have hltr : w.heap.size + 1 < wr.heap.size := blk_lt x1
    clear x1
    by_cases hlt : i < l.length
    · have hln := gAll_len hf i (by omega)
      rw [HG.out] at hln
      simp only at hln
      have hm : modest v cs := ⟨by have := hf.1; omega, by have := hf.1; omega⟩
      clear hln
      obtain ⟨x, hx⟩ : ∃ x, l[i] = x := ⟨_, rfl⟩
      have HX2 := Aside0.mk (show x.f2.length ≤ 400000000 from by have := hf.2 x (by rw [← hx]; exact List.getElem_mem _); omega)
      have hat := at_T47 HC.out (i : Int) (by omega) (by omega)
      rw [rd47 hlt, hx, Int.toNat_natCast] at hat
      obtain ⟨ad, A5, c5, hAd, q0w, q1w, q2w, l5, g5⟩ := hat
      have hadl := World.block_lt_of_cell? w _ q0w
      have HAC := Aside0.mk (show ∀ W, Below w.heap.size w W → W.cell? (ad.add (i * 3)) = some (.int .i64 x.f0) ∧ W.cell? ⟨(ad.add (i * 3)).block, (ad.add (i * 3)).off + 1, none⟩ = some (.int .i64 x.f1) ∧ W.cell? ⟨(ad.add (i * 3)).block, (ad.add (i * 3)).off + 2, none⟩ = some (.slice A5 x.f2.length c5) from
        fun W hW => ⟨(hW.cell hadl).trans q0w, (hW.cell (p := ⟨(ad.add (i * 3)).block, (ad.add (i * 3)).off + 1, none⟩) hadl).trans q1w, (hW.cell (p := ⟨(ad.add (i * 3)).block, (ad.add (i * 3)).off + 2, none⟩) hadl).trans q2w⟩)
      clear q0w q1w q2w hadl
      have HGS := Aside0.mk (show gAll (l.take (i + 1)) = gStep (v, cs) x from by rw [gAll_snoc l i hlt, HG.out, hx])
      clear hx
      subst hAd
      have HC5 := Aside0.mk g5
      clear g5
      have d1 : decide ((i : Int) < (l.length : Int)) = true := decide_eq_true (by omega)
      have d2 : decide (i < l.length) = true := decide_eq_true hlt
      have p0 := eq_true (show (0 : Int) ≤ (i : Int) by omega)
      have HP := Aside0.mk ((HWr.out.box #[.slice A0 v.length c0, .slice A1 cs.length c1] 28))
      have hHP := (HH.out.below (below_alloc (Below.refl _ _) (.cells #[.slice A0 v.length c0, .slice A1 cs.length c1] 28)))
      have HHP := Aside0.mk hHP
      obtain ⟨q0, q1, q2⟩ := HAC.out _ HP.out.bel
      clear hHP
      by_cases ck : x.f0 = 0
      · skip
        have hgt : gTry v cs x = sPush v cs x.f2 := by unfold gTry; simp [ck]
        rw [ck] at q0
        obtain ⟨v', cs', er, hr⟩ : ∃ v' cs' er, sPush v cs x.f2 = (v', cs', er) := ⟨_, _, _, rfl⟩
        have HCT := Aside0.mk (show ∀ W, HoldS W A0 c0 A1 c1 v cs → Kd.C (Kd.int .u8) W A5 x.f2.length x.f2 → Calls Try.prog 13 #[.agg #[.slice A0 v.length c0, .slice A1 cs.length c1], .slice A5 x.f2.length c5] W fun e w' => ∃ B0 d0 B1 d1, e = .returned (.tuple #[.agg #[.slice B0 v'.length d0, .slice B1 cs'.length d1], .int .i64 er]) ∧ HoldS w' B0 d0 B1 d1 v' cs' ∧ Below W.heap.size W w' from fun W hH hC2 => by have := stkPush hH hC2 l5 hm HX2.out; rw [hr] at this; exact this)
        have HR := Aside0.mk (show gStep (v, cs) x = if er = 0 then (v', cs') else (v, cs) from by unfold gStep; rw [hgt, hr])
        clear hgt hr ck
        by_cases hz : er = 0
        · have hzb : (er == 0) = true := beq_iff_eq.mpr hz
          rw [if_pos hz] at HR
          clear hz
          go_wp2
          have hHD := HP.out.drew
          refine rg_startL (n := 12) (S := fun w' => SB w w' [BoxO wr.heap.size 28 2 none, Box (w.heap.size + 1) #[.slice A0 v.length c0, .slice A1 cs.length c1] 28]) (bm 12 0) (by kernel_rfl) rfl (by kernel_rfl) (((hHD.boxHide 2).pick [0, 1])) (fun wd hwd hHeld => ?_)
          refine rg_take (i := 0) (N := some 30) (v := ?_) (a' := ?_) (bm 12 1) rfl rfl (by kernel_rfl) (fun _ _ _ h => h) hHeld (Or.inl ⟨by rfl, ?_⟩) ?_ ?_
          rotate_left
          · intro w' hw'
            have hbx := SB.boxAt (w.heap.size + 1) 28 hw'
            have s0 := blk_cell hbx 0
            have s1 := blk_cell hbx 1
            obtain ⟨r0, r1, r2⟩ := HAC.out w' hw'.bel
            go_simp
            with_reducible rfl
          rotate_left
          · simp only [Act.put, List.setIfInBounds_toArray, List.set_cons_zero, List.set_cons_succ]
            rfl
          refine rg_take (i := 1) (N := some 31) (v := ?_) (a' := ?_) (bm 12 3) rfl rfl (by kernel_rfl) (fun _ _ _ h => h) hHeld (Or.inl ⟨by rfl, ?_⟩) ?_ ?_
          rotate_left
          · intro w' hw'
            have hbx := SB.boxAt (w.heap.size + 1) 28 hw'
            have s0 := blk_cell hbx 0
            have s1 := blk_cell hbx 1
            obtain ⟨r0, r1, r2⟩ := HAC.out w' hw'.bel
            go_simp
            with_reducible rfl
          rotate_left
          · simp only [Act.put, List.setIfInBounds_toArray, List.set_cons_zero, List.set_cons_succ]
            rfl
          refine rg_take (i := 2) (N := some 32) (v := ?_) (a' := ?_) (bm 12 7) rfl rfl (by kernel_rfl) (fun _ _ _ h => h) hHeld (Or.inl ⟨by rfl, ?_⟩) ?_ ?_
          rotate_left
          · intro w' hw'
            have hbx := SB.boxAt (w.heap.size + 1) 28 hw'
            have s0 := blk_cell hbx 0
            have s1 := blk_cell hbx 1
            obtain ⟨r0, r1, r2⟩ := HAC.out w' hw'.bel
            go_simp
            with_reducible rfl
          rotate_left
          · simp only [Act.put, List.setIfInBounds_toArray, List.set_cons_zero, List.set_cons_succ]
            rfl
          refine rg_take (i := 3) (N := some 33) (v := ?_) (a' := ?_) (bm 12 15) rfl rfl (by kernel_rfl) (fun _ _ _ h => h) hHeld (Or.inl ⟨by rfl, ?_⟩) ?_ ?_
          rotate_left
          · intro w' hw'
            have hbx := SB.boxAt (w.heap.size + 1) 28 hw'
            have s0 := blk_cell hbx 0
            have s1 := blk_cell hbx 1
            obtain ⟨r0, r1, r2⟩ := HAC.out w' hw'.bel
            go_simp
            with_reducible rfl
          rotate_left
          · simp only [Act.put, List.setIfInBounds_toArray, List.set_cons_zero, List.set_cons_succ]
            rfl
          refine rg_take (i := 4) (N := some 34) (v := ?_) (a' := ?_) (bm 12 31) rfl rfl (by kernel_rfl) (fun _ _ _ h => h) hHeld (Or.inl ⟨by rfl, ?_⟩) ?_ ?_
          rotate_left
          · intro w' hw'
            have hbx := SB.boxAt (w.heap.size + 1) 28 hw'
            have s0 := blk_cell hbx 0
            have s1 := blk_cell hbx 1
            obtain ⟨r0, r1, r2⟩ := HAC.out w' hw'.bel
            go_simp
            with_reducible rfl
          rotate_left
          · simp only [Act.put, List.setIfInBounds_toArray, List.set_cons_zero, List.set_cons_succ]
            rfl
          refine rg_take (i := 5) (N := some 35) (v := ?_) (a' := ?_) (bm 12 63) rfl rfl (by kernel_rfl) (fun _ _ _ h => h) hHeld (Or.inl ⟨by rfl, ?_⟩) ?_ ?_
          rotate_left
          · intro w' hw'
            have hbx := SB.boxAt (w.heap.size + 1) 28 hw'
            have s0 := blk_cell hbx 0
            have s1 := blk_cell hbx 1
            obtain ⟨r0, r1, r2⟩ := HAC.out w' hw'.bel
            go_simp
            with_reducible rfl
          rotate_left
          · simp only [Act.put, List.setIfInBounds_toArray, List.set_cons_zero, List.set_cons_succ]
            rfl
          refine rg_ready [6] (by kernel_rfl) (by simp) ?_
          refine rg_one (i := 6) (N := some 36) (bm 12 127) rfl rfl (by kernel_rfl) (fun K hK => ?_) rg_nil
          have hHd : SB w wd _ := hwd.out ▸ hHD
          have hHHd : HoldS wd A0 c0 A1 c1 v cs := hwd.out ▸ (HHP.out.below (below_drew (Below.refl _ _)))
          go_simp
          go_at_call 13
          with_reducible refine (HCT.out _ hHHd (Kd.C_below HC5.out hHd.bel)).mono ?_
          rintro e wx6r10 ⟨B0, d0, B1, d1, rfl, hH1, hb⟩
          have HQ := Aside0.mk (hHd.below hb)
          have HHQ := Aside0.mk hH1
          have HHO := Aside0.mk (hHHd.below hb)
          have hnew := hHeld.below hb
          clear hH1 hb
          go_wp2_with fail
          refine hK.out _ _ hnew ?_
          clear hK K
          refine rg_norm (a' := ?_) ?_ ?_
          rotate_left
          · simp only [Act.put, List.setIfInBounds_toArray, List.set_cons_zero, List.set_cons_succ]
            rfl
          clear hHeld
          have hHeld := hnew
          clear hnew
          refine rg_take (i := 7) (N := some 29) (v := ?_) (a' := ?_) (bm 12 255) rfl rfl (by kernel_rfl) (fun _ _ _ h => h) hHeld (Or.inl ⟨by rfl, ?_⟩) ?_ ?_
          rotate_left
          · intro w' hw'
            have hbx := SB.boxAt (w.heap.size + 1) 28 hw'
            have s0 := blk_cell hbx 0
            have s1 := blk_cell hbx 1
            obtain ⟨r0, r1, r2⟩ := HAC.out w' hw'.bel
            go_simp
            with_reducible rfl
          rotate_left
          · simp only [Act.put, List.setIfInBounds_toArray, List.set_cons_zero, List.set_cons_succ]
            rfl
          refine rg_take (i := 8) (N := some 37) (v := ?_) (a' := ?_) (bm 12 511) rfl rfl (by kernel_rfl) (fun _ _ _ h => h) hHeld (Or.inl ⟨by rfl, ?_⟩) ?_ ?_
          rotate_left
          · intro w' hw'
            have hbx := SB.boxAt (w.heap.size + 1) 28 hw'
            have s0 := blk_cell hbx 0
            have s1 := blk_cell hbx 1
            obtain ⟨r0, r1, r2⟩ := HAC.out w' hw'.bel
            go_simp
            with_reducible rfl
          rotate_left
          · simp only [Act.put, List.setIfInBounds_toArray, List.set_cons_zero, List.set_cons_succ]
            rfl
          refine rg_take (i := 9) (N := some 38) (v := ?_) (a' := ?_) (bm 12 1023) rfl rfl (by kernel_rfl) (fun _ _ _ h => h) hHeld (Or.inl ⟨by rfl, ?_⟩) ?_ ?_
          rotate_left
          · intro w' hw'
            have hbx := SB.boxAt (w.heap.size + 1) 28 hw'
            have s0 := blk_cell hbx 0
            have s1 := blk_cell hbx 1
            obtain ⟨r0, r1, r2⟩ := HAC.out w' hw'.bel
            go_simp
            with_reducible rfl
          rotate_left
          · simp only [Act.put, List.setIfInBounds_toArray, List.set_cons_zero, List.set_cons_succ]
            rfl
          refine rg_ready [10] (by kernel_rfl) (by simp) ?_
          refine rg_one (i := 10) (N := none) (bm 12 2047) rfl rfl (by kernel_rfl) (fun K hK => ?_) rg_nil
          have hs5 := SB.boxAt wr.heap.size 28 HQ.out
          have z0 := blk_cell hs5 0
          have z1 := blk_cell hs5 1
          have y0 := blk_fro hs5 0
          have y1 := blk_fro hs5 1
          have hq2 := (HQ.out.set1 0 (.slice B0 v'.length d0)).set1 1 (.slice B1 cs'.length d1)
          have HQ2 := Aside0.mk hq2
          have HHQ2 := Aside0.mk (HHQ.out.set2 (X' := B0) (n' := v'.length) (c' := d0) (Y' := B1) (m' := cs'.length) (d' := d1) hs5)
          have HHO2 := Aside0.mk (HHO.out.set2 (X' := B0) (n' := v'.length) (c' := d0) (Y' := B1) (m' := cs'.length) (d' := d1) hs5)
          have hnew := (hq2.boxHide 2).pick [0, 1]
          clear hq2
          go_simp
          refine hK.out undef _ hnew ?_
          clear hK K
          refine rg_norm (a' := ?_) ?_ ?_
          rotate_left
          · simp only [Act.put, List.setIfInBounds_toArray, List.set_cons_zero, List.set_cons_succ]
            rfl
          clear hHeld
          have hHeld := hnew
          clear hnew
          refine rg_take (i := 11) (N := some 6) (v := ?_) (a' := ?_) (bm 12 4095) rfl rfl (by kernel_rfl) (fun _ _ _ h => h) hHeld (Or.inl ⟨by rfl, ?_⟩) ?_ ?_
          rotate_left
          · intro w' hw'
            have hbx := SB.boxAt (w.heap.size + 1) 28 hw'
            have s0 := blk_cell hbx 0
            have s1 := blk_cell hbx 1
            obtain ⟨r0, r1, r2⟩ := HAC.out w' hw'.bel
            go_simp
            with_reducible rfl
          rotate_left
          · simp only [Act.put, List.setIfInBounds_toArray, List.set_cons_zero, List.set_cons_succ]
            rfl
          refine rg_done (by kernel_rfl) ?_
          have x2 := SB.boxAt wr.heap.size 28 HQ2.out
          have u0 := blk_cell x2 0
          have u1 := blk_cell x2 1
          have x3 := SB.boxAt (w.heap.size + 1) 28 HQ2.out
          have m0 := blk_cell x3 0
          have m1 := blk_cell x3 1
          have n0 := blk_fro x3 0
          have n1 := blk_fro x3 1
          go_wp2
          go_roundw
          case rel =>
            have hSB := (HQ2.out.swap.set1 0 (.slice B0 v'.length d0)).set1 1 (.slice B1 cs'.length d1)
            have hHS := HHQ2.out.set2 (X' := B0) (n' := v'.length) (c' := d0) (Y' := B1) (m' := cs'.length) (d' := d1) x3
            exact ⟨i + 1, v', cs', B0, d0, B1, d1, by go_num, by omega, ⟨HGS.out.trans HR.out⟩, ⟨hSB.pick [0, 2]⟩, ⟨hHS⟩⟩
          case measure => simp [intOf]; omega
        · have hzb : (er == 0) = false := beq_eq_false_iff_ne.mpr hz
          rw [if_neg hz] at HR
          clear hz
          go_wp2
          have hHD := HP.out.drew
          refine rg_startL (n := 12) (S := fun w' => SB w w' [BoxO wr.heap.size 28 2 none, Box (w.heap.size + 1) #[.slice A0 v.length c0, .slice A1 cs.length c1] 28]) (bm 12 0) (by kernel_rfl) rfl (by kernel_rfl) (((hHD.boxHide 2).pick [0, 1])) (fun wd hwd hHeld => ?_)
          refine rg_take (i := 0) (N := some 30) (v := ?_) (a' := ?_) (bm 12 1) rfl rfl (by kernel_rfl) (fun _ _ _ h => h) hHeld (Or.inl ⟨by rfl, ?_⟩) ?_ ?_
          rotate_left
          · intro w' hw'
            have hbx := SB.boxAt (w.heap.size + 1) 28 hw'
            have s0 := blk_cell hbx 0
            have s1 := blk_cell hbx 1
            obtain ⟨r0, r1, r2⟩ := HAC.out w' hw'.bel
            go_simp
            with_reducible rfl
          rotate_left
          · simp only [Act.put, List.setIfInBounds_toArray, List.set_cons_zero, List.set_cons_succ]
            rfl
          refine rg_take (i := 1) (N := some 31) (v := ?_) (a' := ?_) (bm 12 3) rfl rfl (by kernel_rfl) (fun _ _ _ h => h) hHeld (Or.inl ⟨by rfl, ?_⟩) ?_ ?_
          rotate_left
          · intro w' hw'
            have hbx := SB.boxAt (w.heap.size + 1) 28 hw'
            have s0 := blk_cell hbx 0
            have s1 := blk_cell hbx 1
            obtain ⟨r0, r1, r2⟩ := HAC.out w' hw'.bel
            go_simp
            with_reducible rfl
          rotate_left
          · simp only [Act.put, List.setIfInBounds_toArray, List.set_cons_zero, List.set_cons_succ]
            rfl
          refine rg_take (i := 2) (N := some 32) (v := ?_) (a' := ?_) (bm 12 7) rfl rfl (by kernel_rfl) (fun _ _ _ h => h) hHeld (Or.inl ⟨by rfl, ?_⟩) ?_ ?_
          rotate_left
          · intro w' hw'
            have hbx := SB.boxAt (w.heap.size + 1) 28 hw'
            have s0 := blk_cell hbx 0
            have s1 := blk_cell hbx 1
            obtain ⟨r0, r1, r2⟩ := HAC.out w' hw'.bel
            go_simp
            with_reducible rfl
          rotate_left
          · simp only [Act.put, List.setIfInBounds_toArray, List.set_cons_zero, List.set_cons_succ]
            rfl
          refine rg_take (i := 3) (N := some 33) (v := ?_) (a' := ?_) (bm 12 15) rfl rfl (by kernel_rfl) (fun _ _ _ h => h) hHeld (Or.inl ⟨by rfl, ?_⟩) ?_ ?_
          rotate_left
          · intro w' hw'
            have hbx := SB.boxAt (w.heap.size + 1) 28 hw'
            have s0 := blk_cell hbx 0
            have s1 := blk_cell hbx 1
            obtain ⟨r0, r1, r2⟩ := HAC.out w' hw'.bel
            go_simp
            with_reducible rfl
          rotate_left
          · simp only [Act.put, List.setIfInBounds_toArray, List.set_cons_zero, List.set_cons_succ]
            rfl
          refine rg_take (i := 4) (N := some 34) (v := ?_) (a' := ?_) (bm 12 31) rfl rfl (by kernel_rfl) (fun _ _ _ h => h) hHeld (Or.inl ⟨by rfl, ?_⟩) ?_ ?_
          rotate_left
          · intro w' hw'
            have hbx := SB.boxAt (w.heap.size + 1) 28 hw'
            have s0 := blk_cell hbx 0
            have s1 := blk_cell hbx 1
            obtain ⟨r0, r1, r2⟩ := HAC.out w' hw'.bel
            go_simp
            with_reducible rfl
          rotate_left
          · simp only [Act.put, List.setIfInBounds_toArray, List.set_cons_zero, List.set_cons_succ]
            rfl
          refine rg_take (i := 5) (N := some 35) (v := ?_) (a' := ?_) (bm 12 63) rfl rfl (by kernel_rfl) (fun _ _ _ h => h) hHeld (Or.inl ⟨by rfl, ?_⟩) ?_ ?_
          rotate_left
          · intro w' hw'
            have hbx := SB.boxAt (w.heap.size + 1) 28 hw'
            have s0 := blk_cell hbx 0
            have s1 := blk_cell hbx 1
            obtain ⟨r0, r1, r2⟩ := HAC.out w' hw'.bel
            go_simp
            with_reducible rfl
          rotate_left
          · simp only [Act.put, List.setIfInBounds_toArray, List.set_cons_zero, List.set_cons_succ]
            rfl
          refine rg_ready [6] (by kernel_rfl) (by simp) ?_
          refine rg_one (i := 6) (N := some 36) (bm 12 127) rfl rfl (by kernel_rfl) (fun K hK => ?_) rg_nil
          have hHd : SB w wd _ := hwd.out ▸ hHD
          have hHHd : HoldS wd A0 c0 A1 c1 v cs := hwd.out ▸ (HHP.out.below (below_drew (Below.refl _ _)))
          go_simp
          go_at_call 13
          with_reducible refine (HCT.out _ hHHd (Kd.C_below HC5.out hHd.bel)).mono ?_
          rintro e wx6r10 ⟨B0, d0, B1, d1, rfl, hH1, hb⟩
          have HQ := Aside0.mk (hHd.below hb)
          have HHQ := Aside0.mk hH1
          have HHO := Aside0.mk (hHHd.below hb)
          have hnew := hHeld.below hb
          clear hH1 hb
          go_wp2_with fail
          refine hK.out _ _ hnew ?_
          clear hK K
          refine rg_norm (a' := ?_) ?_ ?_
          rotate_left
          · simp only [Act.put, List.setIfInBounds_toArray, List.set_cons_zero, List.set_cons_succ]
            rfl
          clear hHeld
          have hHeld := hnew
          clear hnew
          refine rg_take (i := 7) (N := some 29) (v := ?_) (a' := ?_) (bm 12 255) rfl rfl (by kernel_rfl) (fun _ _ _ h => h) hHeld (Or.inl ⟨by rfl, ?_⟩) ?_ ?_
          rotate_left
          · intro w' hw'
            have hbx := SB.boxAt (w.heap.size + 1) 28 hw'
            have s0 := blk_cell hbx 0
            have s1 := blk_cell hbx 1
            obtain ⟨r0, r1, r2⟩ := HAC.out w' hw'.bel
            go_simp
            with_reducible rfl
          rotate_left
          · simp only [Act.put, List.setIfInBounds_toArray, List.set_cons_zero, List.set_cons_succ]
            rfl
          refine rg_take (i := 8) (N := some 37) (v := ?_) (a' := ?_) (bm 12 511) rfl rfl (by kernel_rfl) (fun _ _ _ h => h) hHeld (Or.inl ⟨by rfl, ?_⟩) ?_ ?_
          rotate_left
          · intro w' hw'
            have hbx := SB.boxAt (w.heap.size + 1) 28 hw'
            have s0 := blk_cell hbx 0
            have s1 := blk_cell hbx 1
            obtain ⟨r0, r1, r2⟩ := HAC.out w' hw'.bel
            go_simp
            with_reducible rfl
          rotate_left
          · simp only [Act.put, List.setIfInBounds_toArray, List.set_cons_zero, List.set_cons_succ]
            rfl
          refine rg_take (i := 9) (N := some 38) (v := ?_) (a' := ?_) (bm 12 1023) rfl rfl (by kernel_rfl) (fun _ _ _ h => h) hHeld (Or.inl ⟨by rfl, ?_⟩) ?_ ?_
          rotate_left
          · intro w' hw'
            have hbx := SB.boxAt (w.heap.size + 1) 28 hw'
            have s0 := blk_cell hbx 0
            have s1 := blk_cell hbx 1
            obtain ⟨r0, r1, r2⟩ := HAC.out w' hw'.bel
            go_simp
            with_reducible rfl
          rotate_left
          · simp only [Act.put, List.setIfInBounds_toArray, List.set_cons_zero, List.set_cons_succ]
            rfl
          refine rg_ready [10] (by kernel_rfl) (by simp) ?_
          refine rg_one (i := 10) (N := none) (bm 12 2047) rfl rfl (by kernel_rfl) (fun K hK => ?_) rg_nil
          have hs5 := SB.boxAt wr.heap.size 28 HQ.out
          have z0 := blk_cell hs5 0
          have z1 := blk_cell hs5 1
          have y0 := blk_fro hs5 0
          have y1 := blk_fro hs5 1
          have hq2 := (HQ.out.set1 0 (.slice B0 v'.length d0)).set1 1 (.slice B1 cs'.length d1)
          have HQ2 := Aside0.mk hq2
          have HHQ2 := Aside0.mk (HHQ.out.set2 (X' := B0) (n' := v'.length) (c' := d0) (Y' := B1) (m' := cs'.length) (d' := d1) hs5)
          have HHO2 := Aside0.mk (HHO.out.set2 (X' := B0) (n' := v'.length) (c' := d0) (Y' := B1) (m' := cs'.length) (d' := d1) hs5)
          have hnew := (hq2.boxHide 2).pick [0, 1]
          clear hq2
          go_simp
          refine hK.out undef _ hnew ?_
          clear hK K
          refine rg_norm (a' := ?_) ?_ ?_
          rotate_left
          · simp only [Act.put, List.setIfInBounds_toArray, List.set_cons_zero, List.set_cons_succ]
            rfl
          clear hHeld
          have hHeld := hnew
          clear hnew
          refine rg_take (i := 11) (N := some 6) (v := ?_) (a' := ?_) (bm 12 4095) rfl rfl (by kernel_rfl) (fun _ _ _ h => h) hHeld (Or.inl ⟨by rfl, ?_⟩) ?_ ?_
          rotate_left
          · intro w' hw'
            have hbx := SB.boxAt (w.heap.size + 1) 28 hw'
            have s0 := blk_cell hbx 0
            have s1 := blk_cell hbx 1
            obtain ⟨r0, r1, r2⟩ := HAC.out w' hw'.bel
            go_simp
            with_reducible rfl
          rotate_left
          · simp only [Act.put, List.setIfInBounds_toArray, List.set_cons_zero, List.set_cons_succ]
            rfl
          refine rg_done (by kernel_rfl) ?_
          have x2 := SB.boxAt wr.heap.size 28 HQ2.out
          have u0 := blk_cell x2 0
          have u1 := blk_cell x2 1
          have x3 := SB.boxAt (w.heap.size + 1) 28 HQ2.out
          have m0 := blk_cell x3 0
          have m1 := blk_cell x3 1
          have n0 := blk_fro x3 0
          have n1 := blk_fro x3 1
          go_wp2
          go_roundw
          case rel => exact ⟨i + 1, v, cs, A0, c0, A1, c1, by go_num, by omega, ⟨HGS.out.trans HR.out⟩, ⟨HQ2.out.pick [1, 2]⟩, ⟨HHO2.out⟩⟩
          case measure => simp [intOf]; omega
      have e0 : (x.f0 == 0) = false := beq_eq_false_iff_ne.mpr ck
      by_cases ck : x.f0 = 1
      · skip
        have hgt : gTry v cs x = sPush v cs x.f2 := by unfold gTry; simp [ck]
        rw [ck] at q0
        obtain ⟨v', cs', er, hr⟩ : ∃ v' cs' er, sPush v cs x.f2 = (v', cs', er) := ⟨_, _, _, rfl⟩
        have HCT := Aside0.mk (show ∀ W, HoldS W A0 c0 A1 c1 v cs → Kd.C (Kd.int .u8) W A5 x.f2.length x.f2 → Calls Try.prog 13 #[.agg #[.slice A0 v.length c0, .slice A1 cs.length c1], .slice A5 x.f2.length c5] W fun e w' => ∃ B0 d0 B1 d1, e = .returned (.tuple #[.agg #[.slice B0 v'.length d0, .slice B1 cs'.length d1], .int .i64 er]) ∧ HoldS w' B0 d0 B1 d1 v' cs' ∧ Below W.heap.size W w' from fun W hH hC2 => by have := stkPush hH hC2 l5 hm HX2.out; rw [hr] at this; exact this)
        have HR := Aside0.mk (show gStep (v, cs) x = if er = 0 then (v', cs') else (v, cs) from by unfold gStep; rw [hgt, hr])
        clear hgt hr ck
        by_cases hz : er = 0
        · have hzb : (er == 0) = true := beq_iff_eq.mpr hz
          rw [if_pos hz] at HR
          clear hz
          go_wp2
          have hHD := HP.out.drew
          refine rg_startL (n := 12) (S := fun w' => SB w w' [BoxO wr.heap.size 28 2 none, Box (w.heap.size + 1) #[.slice A0 v.length c0, .slice A1 cs.length c1] 28]) (bm 12 0) (by kernel_rfl) rfl (by kernel_rfl) (((hHD.boxHide 2).pick [0, 1])) (fun wd hwd hHeld => ?_)
          refine rg_take (i := 0) (N := some 30) (v := ?_) (a' := ?_) (bm 12 1) rfl rfl (by kernel_rfl) (fun _ _ _ h => h) hHeld (Or.inl ⟨by rfl, ?_⟩) ?_ ?_
          rotate_left
          · intro w' hw'
            have hbx := SB.boxAt (w.heap.size + 1) 28 hw'
            have s0 := blk_cell hbx 0
            have s1 := blk_cell hbx 1
            obtain ⟨r0, r1, r2⟩ := HAC.out w' hw'.bel
            go_simp
            with_reducible rfl
          rotate_left
          · simp only [Act.put, List.setIfInBounds_toArray, List.set_cons_zero, List.set_cons_succ]
            rfl
          refine rg_take (i := 1) (N := some 31) (v := ?_) (a' := ?_) (bm 12 3) rfl rfl (by kernel_rfl) (fun _ _ _ h => h) hHeld (Or.inl ⟨by rfl, ?_⟩) ?_ ?_
          rotate_left
          · intro w' hw'
            have hbx := SB.boxAt (w.heap.size + 1) 28 hw'
            have s0 := blk_cell hbx 0
            have s1 := blk_cell hbx 1
            obtain ⟨r0, r1, r2⟩ := HAC.out w' hw'.bel
            go_simp
            with_reducible rfl
          rotate_left
          · simp only [Act.put, List.setIfInBounds_toArray, List.set_cons_zero, List.set_cons_succ]
            rfl
          refine rg_take (i := 2) (N := some 32) (v := ?_) (a' := ?_) (bm 12 7) rfl rfl (by kernel_rfl) (fun _ _ _ h => h) hHeld (Or.inl ⟨by rfl, ?_⟩) ?_ ?_
          rotate_left
          · intro w' hw'
            have hbx := SB.boxAt (w.heap.size + 1) 28 hw'
            have s0 := blk_cell hbx 0
            have s1 := blk_cell hbx 1
            obtain ⟨r0, r1, r2⟩ := HAC.out w' hw'.bel
            go_simp
            with_reducible rfl
          rotate_left
          · simp only [Act.put, List.setIfInBounds_toArray, List.set_cons_zero, List.set_cons_succ]
            rfl
          refine rg_take (i := 3) (N := some 33) (v := ?_) (a' := ?_) (bm 12 15) rfl rfl (by kernel_rfl) (fun _ _ _ h => h) hHeld (Or.inl ⟨by rfl, ?_⟩) ?_ ?_
          rotate_left
          · intro w' hw'
            have hbx := SB.boxAt (w.heap.size + 1) 28 hw'
            have s0 := blk_cell hbx 0
            have s1 := blk_cell hbx 1
            obtain ⟨r0, r1, r2⟩ := HAC.out w' hw'.bel
            go_simp
            with_reducible rfl
          rotate_left
          · simp only [Act.put, List.setIfInBounds_toArray, List.set_cons_zero, List.set_cons_succ]
            rfl
          refine rg_take (i := 4) (N := some 34) (v := ?_) (a' := ?_) (bm 12 31) rfl rfl (by kernel_rfl) (fun _ _ _ h => h) hHeld (Or.inl ⟨by rfl, ?_⟩) ?_ ?_
          rotate_left
          · intro w' hw'
            have hbx := SB.boxAt (w.heap.size + 1) 28 hw'
            have s0 := blk_cell hbx 0
            have s1 := blk_cell hbx 1
            obtain ⟨r0, r1, r2⟩ := HAC.out w' hw'.bel
            go_simp
            with_reducible rfl
          rotate_left
          · simp only [Act.put, List.setIfInBounds_toArray, List.set_cons_zero, List.set_cons_succ]
            rfl
          refine rg_take (i := 5) (N := some 35) (v := ?_) (a' := ?_) (bm 12 63) rfl rfl (by kernel_rfl) (fun _ _ _ h => h) hHeld (Or.inl ⟨by rfl, ?_⟩) ?_ ?_
          rotate_left
          · intro w' hw'
            have hbx := SB.boxAt (w.heap.size + 1) 28 hw'
            have s0 := blk_cell hbx 0
            have s1 := blk_cell hbx 1
            obtain ⟨r0, r1, r2⟩ := HAC.out w' hw'.bel
            go_simp
            with_reducible rfl
          rotate_left
          · simp only [Act.put, List.setIfInBounds_toArray, List.set_cons_zero, List.set_cons_succ]
            rfl
          refine rg_ready [6] (by kernel_rfl) (by simp) ?_
          refine rg_one (i := 6) (N := some 36) (bm 12 127) rfl rfl (by kernel_rfl) (fun K hK => ?_) rg_nil
          have hHd : SB w wd _ := hwd.out ▸ hHD
          have hHHd : HoldS wd A0 c0 A1 c1 v cs := hwd.out ▸ (HHP.out.below (below_drew (Below.refl _ _)))
          go_simp
          go_at_call 13
          with_reducible refine (HCT.out _ hHHd (Kd.C_below HC5.out hHd.bel)).mono ?_
          rintro e wx6r10 ⟨B0, d0, B1, d1, rfl, hH1, hb⟩
          have HQ := Aside0.mk (hHd.below hb)
          have HHQ := Aside0.mk hH1
          have HHO := Aside0.mk (hHHd.below hb)
          have hnew := hHeld.below hb
          clear hH1 hb
          go_wp2_with fail
          refine hK.out _ _ hnew ?_
          clear hK K
          refine rg_norm (a' := ?_) ?_ ?_
          rotate_left
          · simp only [Act.put, List.setIfInBounds_toArray, List.set_cons_zero, List.set_cons_succ]
            rfl
          clear hHeld
          have hHeld := hnew
          clear hnew
          refine rg_take (i := 7) (N := some 29) (v := ?_) (a' := ?_) (bm 12 255) rfl rfl (by kernel_rfl) (fun _ _ _ h => h) hHeld (Or.inl ⟨by rfl, ?_⟩) ?_ ?_
          rotate_left
          · intro w' hw'
            have hbx := SB.boxAt (w.heap.size + 1) 28 hw'
            have s0 := blk_cell hbx 0
            have s1 := blk_cell hbx 1
            obtain ⟨r0, r1, r2⟩ := HAC.out w' hw'.bel
            go_simp
            with_reducible rfl
          rotate_left
          · simp only [Act.put, List.setIfInBounds_toArray, List.set_cons_zero, List.set_cons_succ]
            rfl
          refine rg_take (i := 8) (N := some 37) (v := ?_) (a' := ?_) (bm 12 511) rfl rfl (by kernel_rfl) (fun _ _ _ h => h) hHeld (Or.inl ⟨by rfl, ?_⟩) ?_ ?_
          rotate_left
          · intro w' hw'
            have hbx := SB.boxAt (w.heap.size + 1) 28 hw'
            have s0 := blk_cell hbx 0
            have s1 := blk_cell hbx 1
            obtain ⟨r0, r1, r2⟩ := HAC.out w' hw'.bel
            go_simp
            with_reducible rfl
          rotate_left
          · simp only [Act.put, List.setIfInBounds_toArray, List.set_cons_zero, List.set_cons_succ]
            rfl
          refine rg_take (i := 9) (N := some 38) (v := ?_) (a' := ?_) (bm 12 1023) rfl rfl (by kernel_rfl) (fun _ _ _ h => h) hHeld (Or.inl ⟨by rfl, ?_⟩) ?_ ?_
          rotate_left
          · intro w' hw'
            have hbx := SB.boxAt (w.heap.size + 1) 28 hw'
            have s0 := blk_cell hbx 0
            have s1 := blk_cell hbx 1
            obtain ⟨r0, r1, r2⟩ := HAC.out w' hw'.bel
            go_simp
            with_reducible rfl
          rotate_left
          · simp only [Act.put, List.setIfInBounds_toArray, List.set_cons_zero, List.set_cons_succ]
            rfl
          refine rg_ready [10] (by kernel_rfl) (by simp) ?_
          refine rg_one (i := 10) (N := none) (bm 12 2047) rfl rfl (by kernel_rfl) (fun K hK => ?_) rg_nil
          have hs5 := SB.boxAt wr.heap.size 28 HQ.out
          have z0 := blk_cell hs5 0
          have z1 := blk_cell hs5 1
          have y0 := blk_fro hs5 0
          have y1 := blk_fro hs5 1
          have hq2 := (HQ.out.set1 0 (.slice B0 v'.length d0)).set1 1 (.slice B1 cs'.length d1)
          have HQ2 := Aside0.mk hq2
          have HHQ2 := Aside0.mk (HHQ.out.set2 (X' := B0) (n' := v'.length) (c' := d0) (Y' := B1) (m' := cs'.length) (d' := d1) hs5)
          have HHO2 := Aside0.mk (HHO.out.set2 (X' := B0) (n' := v'.length) (c' := d0) (Y' := B1) (m' := cs'.length) (d' := d1) hs5)
          have hnew := (hq2.boxHide 2).pick [0, 1]
          clear hq2
          go_simp
          refine hK.out undef _ hnew ?_
          clear hK K
          refine rg_norm (a' := ?_) ?_ ?_
          rotate_left
          · simp only [Act.put, List.setIfInBounds_toArray, List.set_cons_zero, List.set_cons_succ]
            rfl
          clear hHeld
          have hHeld := hnew
          clear hnew
          refine rg_take (i := 11) (N := some 6) (v := ?_) (a' := ?_) (bm 12 4095) rfl rfl (by kernel_rfl) (fun _ _ _ h => h) hHeld (Or.inl ⟨by rfl, ?_⟩) ?_ ?_
          rotate_left
          · intro w' hw'
            have hbx := SB.boxAt (w.heap.size + 1) 28 hw'
            have s0 := blk_cell hbx 0
            have s1 := blk_cell hbx 1
            obtain ⟨r0, r1, r2⟩ := HAC.out w' hw'.bel
            go_simp
            with_reducible rfl
          rotate_left
          · simp only [Act.put, List.setIfInBounds_toArray, List.set_cons_zero, List.set_cons_succ]
            rfl
          refine rg_done (by kernel_rfl) ?_
          have x2 := SB.boxAt wr.heap.size 28 HQ2.out
          have u0 := blk_cell x2 0
          have u1 := blk_cell x2 1
          have x3 := SB.boxAt (w.heap.size + 1) 28 HQ2.out
          have m0 := blk_cell x3 0
          have m1 := blk_cell x3 1
          have n0 := blk_fro x3 0
          have n1 := blk_fro x3 1
          go_wp2
          go_roundw
          case rel =>
            have hSB := (HQ2.out.swap.set1 0 (.slice B0 v'.length d0)).set1 1 (.slice B1 cs'.length d1)
            have hHS := HHQ2.out.set2 (X' := B0) (n' := v'.length) (c' := d0) (Y' := B1) (m' := cs'.length) (d' := d1) x3
            exact ⟨i + 1, v', cs', B0, d0, B1, d1, by go_num, by omega, ⟨HGS.out.trans HR.out⟩, ⟨hSB.pick [0, 2]⟩, ⟨hHS⟩⟩
          case measure => simp [intOf]; omega
        · have hzb : (er == 0) = false := beq_eq_false_iff_ne.mpr hz
          rw [if_neg hz] at HR
          clear hz
          go_wp2
          have hHD := HP.out.drew
          refine rg_startL (n := 12) (S := fun w' => SB w w' [BoxO wr.heap.size 28 2 none, Box (w.heap.size + 1) #[.slice A0 v.length c0, .slice A1 cs.length c1] 28]) (bm 12 0) (by kernel_rfl) rfl (by kernel_rfl) (((hHD.boxHide 2).pick [0, 1])) (fun wd hwd hHeld => ?_)
          refine rg_take (i := 0) (N := some 30) (v := ?_) (a' := ?_) (bm 12 1) rfl rfl (by kernel_rfl) (fun _ _ _ h => h) hHeld (Or.inl ⟨by rfl, ?_⟩) ?_ ?_
          rotate_left
          · intro w' hw'
            have hbx := SB.boxAt (w.heap.size + 1) 28 hw'
            have s0 := blk_cell hbx 0
            have s1 := blk_cell hbx 1
            obtain ⟨r0, r1, r2⟩ := HAC.out w' hw'.bel
            go_simp
            with_reducible rfl
          rotate_left
          · simp only [Act.put, List.setIfInBounds_toArray, List.set_cons_zero, List.set_cons_succ]
            rfl
          refine rg_take (i := 1) (N := some 31) (v := ?_) (a' := ?_) (bm 12 3) rfl rfl (by kernel_rfl) (fun _ _ _ h => h) hHeld (Or.inl ⟨by rfl, ?_⟩) ?_ ?_
          rotate_left
          · intro w' hw'
            have hbx := SB.boxAt (w.heap.size + 1) 28 hw'
            have s0 := blk_cell hbx 0
            have s1 := blk_cell hbx 1
            obtain ⟨r0, r1, r2⟩ := HAC.out w' hw'.bel
            go_simp
            with_reducible rfl
          rotate_left
          · simp only [Act.put, List.setIfInBounds_toArray, List.set_cons_zero, List.set_cons_succ]
            rfl
          refine rg_take (i := 2) (N := some 32) (v := ?_) (a' := ?_) (bm 12 7) rfl rfl (by kernel_rfl) (fun _ _ _ h => h) hHeld (Or.inl ⟨by rfl, ?_⟩) ?_ ?_
          rotate_left
          · intro w' hw'
            have hbx := SB.boxAt (w.heap.size + 1) 28 hw'
            have s0 := blk_cell hbx 0
            have s1 := blk_cell hbx 1
            obtain ⟨r0, r1, r2⟩ := HAC.out w' hw'.bel
            go_simp
            with_reducible rfl
          rotate_left
          · simp only [Act.put, List.setIfInBounds_toArray, List.set_cons_zero, List.set_cons_succ]
            rfl
          refine rg_take (i := 3) (N := some 33) (v := ?_) (a' := ?_) (bm 12 15) rfl rfl (by kernel_rfl) (fun _ _ _ h => h) hHeld (Or.inl ⟨by rfl, ?_⟩) ?_ ?_
          rotate_left
          · intro w' hw'
            have hbx := SB.boxAt (w.heap.size + 1) 28 hw'
            have s0 := blk_cell hbx 0
            have s1 := blk_cell hbx 1
            obtain ⟨r0, r1, r2⟩ := HAC.out w' hw'.bel
            go_simp
            with_reducible rfl
          rotate_left
          · simp only [Act.put, List.setIfInBounds_toArray, List.set_cons_zero, List.set_cons_succ]
            rfl
          refine rg_take (i := 4) (N := some 34) (v := ?_) (a' := ?_) (bm 12 31) rfl rfl (by kernel_rfl) (fun _ _ _ h => h) hHeld (Or.inl ⟨by rfl, ?_⟩) ?_ ?_
          rotate_left
          · intro w' hw'
            have hbx := SB.boxAt (w.heap.size + 1) 28 hw'
            have s0 := blk_cell hbx 0
            have s1 := blk_cell hbx 1
            obtain ⟨r0, r1, r2⟩ := HAC.out w' hw'.bel
            go_simp
            with_reducible rfl
          rotate_left
          · simp only [Act.put, List.setIfInBounds_toArray, List.set_cons_zero, List.set_cons_succ]
            rfl
          refine rg_take (i := 5) (N := some 35) (v := ?_) (a' := ?_) (bm 12 63) rfl rfl (by kernel_rfl) (fun _ _ _ h => h) hHeld (Or.inl ⟨by rfl, ?_⟩) ?_ ?_
          rotate_left
          · intro w' hw'
            have hbx := SB.boxAt (w.heap.size + 1) 28 hw'
            have s0 := blk_cell hbx 0
            have s1 := blk_cell hbx 1
            obtain ⟨r0, r1, r2⟩ := HAC.out w' hw'.bel
            go_simp
            with_reducible rfl
          rotate_left
          · simp only [Act.put, List.setIfInBounds_toArray, List.set_cons_zero, List.set_cons_succ]
            rfl
          refine rg_ready [6] (by kernel_rfl) (by simp) ?_
          refine rg_one (i := 6) (N := some 36) (bm 12 127) rfl rfl (by kernel_rfl) (fun K hK => ?_) rg_nil
          have hHd : SB w wd _ := hwd.out ▸ hHD
          have hHHd : HoldS wd A0 c0 A1 c1 v cs := hwd.out ▸ (HHP.out.below (below_drew (Below.refl _ _)))
          go_simp
          go_at_call 13
          with_reducible refine (HCT.out _ hHHd (Kd.C_below HC5.out hHd.bel)).mono ?_
          rintro e wx6r10 ⟨B0, d0, B1, d1, rfl, hH1, hb⟩
          have HQ := Aside0.mk (hHd.below hb)
          have HHQ := Aside0.mk hH1
          have HHO := Aside0.mk (hHHd.below hb)
          have hnew := hHeld.below hb
          clear hH1 hb
          go_wp2_with fail
          refine hK.out _ _ hnew ?_
          clear hK K
          refine rg_norm (a' := ?_) ?_ ?_
          rotate_left
          · simp only [Act.put, List.setIfInBounds_toArray, List.set_cons_zero, List.set_cons_succ]
            rfl
          clear hHeld
          have hHeld := hnew
          clear hnew
          refine rg_take (i := 7) (N := some 29) (v := ?_) (a' := ?_) (bm 12 255) rfl rfl (by kernel_rfl) (fun _ _ _ h => h) hHeld (Or.inl ⟨by rfl, ?_⟩) ?_ ?_
          rotate_left
          · intro w' hw'
            have hbx := SB.boxAt (w.heap.size + 1) 28 hw'
            have s0 := blk_cell hbx 0
            have s1 := blk_cell hbx 1
            obtain ⟨r0, r1, r2⟩ := HAC.out w' hw'.bel
            go_simp
            with_reducible rfl
          rotate_left
          · simp only [Act.put, List.setIfInBounds_toArray, List.set_cons_zero, List.set_cons_succ]
            rfl
          refine rg_take (i := 8) (N := some 37) (v := ?_) (a' := ?_) (bm 12 511) rfl rfl (by kernel_rfl) (fun _ _ _ h => h) hHeld (Or.inl ⟨by rfl, ?_⟩) ?_ ?_
          rotate_left
          · intro w' hw'
            have hbx := SB.boxAt (w.heap.size + 1) 28 hw'
            have s0 := blk_cell hbx 0
            have s1 := blk_cell hbx 1
            obtain ⟨r0, r1, r2⟩ := HAC.out w' hw'.bel
            go_simp
            with_reducible rfl
          rotate_left
          · simp only [Act.put, List.setIfInBounds_toArray, List.set_cons_zero, List.set_cons_succ]
            rfl
          refine rg_take (i := 9) (N := some 38) (v := ?_) (a' := ?_) (bm 12 1023) rfl rfl (by kernel_rfl) (fun _ _ _ h => h) hHeld (Or.inl ⟨by rfl, ?_⟩) ?_ ?_
          rotate_left
          · intro w' hw'
            have hbx := SB.boxAt (w.heap.size + 1) 28 hw'
            have s0 := blk_cell hbx 0
            have s1 := blk_cell hbx 1
            obtain ⟨r0, r1, r2⟩ := HAC.out w' hw'.bel
            go_simp
            with_reducible rfl
          rotate_left
          · simp only [Act.put, List.setIfInBounds_toArray, List.set_cons_zero, List.set_cons_succ]
            rfl
          refine rg_ready [10] (by kernel_rfl) (by simp) ?_
          refine rg_one (i := 10) (N := none) (bm 12 2047) rfl rfl (by kernel_rfl) (fun K hK => ?_) rg_nil
          have hs5 := SB.boxAt wr.heap.size 28 HQ.out
          have z0 := blk_cell hs5 0
          have z1 := blk_cell hs5 1
          have y0 := blk_fro hs5 0
          have y1 := blk_fro hs5 1
          have hq2 := (HQ.out.set1 0 (.slice B0 v'.length d0)).set1 1 (.slice B1 cs'.length d1)
          have HQ2 := Aside0.mk hq2
          have HHQ2 := Aside0.mk (HHQ.out.set2 (X' := B0) (n' := v'.length) (c' := d0) (Y' := B1) (m' := cs'.length) (d' := d1) hs5)
          have HHO2 := Aside0.mk (HHO.out.set2 (X' := B0) (n' := v'.length) (c' := d0) (Y' := B1) (m' := cs'.length) (d' := d1) hs5)
          have hnew := (hq2.boxHide 2).pick [0, 1]
          clear hq2
          go_simp
          refine hK.out undef _ hnew ?_
          clear hK K
          refine rg_norm (a' := ?_) ?_ ?_
          rotate_left
          · simp only [Act.put, List.setIfInBounds_toArray, List.set_cons_zero, List.set_cons_succ]
            rfl
          clear hHeld
          have hHeld := hnew
          clear hnew
          refine rg_take (i := 11) (N := some 6) (v := ?_) (a' := ?_) (bm 12 4095) rfl rfl (by kernel_rfl) (fun _ _ _ h => h) hHeld (Or.inl ⟨by rfl, ?_⟩) ?_ ?_
          rotate_left
          · intro w' hw'
            have hbx := SB.boxAt (w.heap.size + 1) 28 hw'
            have s0 := blk_cell hbx 0
            have s1 := blk_cell hbx 1
            obtain ⟨r0, r1, r2⟩ := HAC.out w' hw'.bel
            go_simp
            with_reducible rfl
          rotate_left
          · simp only [Act.put, List.setIfInBounds_toArray, List.set_cons_zero, List.set_cons_succ]
            rfl
          refine rg_done (by kernel_rfl) ?_
          have x2 := SB.boxAt wr.heap.size 28 HQ2.out
          have u0 := blk_cell x2 0
          have u1 := blk_cell x2 1
          have x3 := SB.boxAt (w.heap.size + 1) 28 HQ2.out
          have m0 := blk_cell x3 0
          have m1 := blk_cell x3 1
          have n0 := blk_fro x3 0
          have n1 := blk_fro x3 1
          go_wp2
          go_roundw
          case rel => exact ⟨i + 1, v, cs, A0, c0, A1, c1, by go_num, by omega, ⟨HGS.out.trans HR.out⟩, ⟨HQ2.out.pick [1, 2]⟩, ⟨HHO2.out⟩⟩
          case measure => simp [intOf]; omega
      have e1 : (x.f0 == 1) = false := beq_eq_false_iff_ne.mpr ck
      by_cases ck : x.f0 = 2
      · skip
        have hgt : gTry v cs x = ((sPop v cs ).1, (sPop v cs ).2.1, (sPop v cs ).2.2.2) := by unfold gTry; simp [ck]
        rw [ck] at q0
        obtain ⟨v', cs', kx, er, hr⟩ : ∃ v' cs' kx er, sPop v cs = (v', cs', kx, er) := ⟨_, _, _, _, rfl⟩
        have HCT := Aside0.mk (show ∀ W, HoldS W A0 c0 A1 c1 v cs → Calls Try.prog 20 #[.agg #[.slice A0 v.length c0, .slice A1 cs.length c1]] W fun e w' => ∃ B0 d0 B1 d1, e = .returned (.tuple #[.agg #[.slice B0 v'.length d0, .slice B1 cs'.length d1], .int .u8 kx, .int .i64 er]) ∧ HoldS w' B0 d0 B1 d1 v' cs' ∧ Below W.heap.size W w' from fun W hH => by have := stkPopS hH hm; rw [hr] at this; exact this)
        have HR := Aside0.mk (show gStep (v, cs) x = if er = 0 then (v', cs') else (v, cs) from by unfold gStep; rw [hgt, hr])
        clear hgt hr ck
        by_cases hz : er = 0
        · have hzb : (er == 0) = true := beq_iff_eq.mpr hz
          rw [if_pos hz] at HR
          clear hz
          go_wp2_with (go_at_call 20; refine (HCT.out _ HHP.out).mono ?_; rintro e w1 ⟨B0, d0, B1, d1, rfl, hH1, hb⟩; have HQ := Aside0.mk (HP.out.below hb); have HHQ := Aside0.mk hH1; have HHO := Aside0.mk (HHP.out.below hb); clear hH1; have x2 := SB.boxAt wr.heap.size 28 HQ.out; have z0 := blk_cell x2 0; have z1 := blk_cell x2 1; have y0 := blk_fro x2 0; have y1 := blk_fro x2 1; clear x2; have x3 := SB.boxAt (w.heap.size + 1) 28 HQ.out; have m0 := blk_cell x3 0; have m1 := blk_cell x3 1; have n0 := blk_fro x3 0; have n1 := blk_fro x3 1; clear x3; have hltq : w.heap.size + 1 < w1.heap.size := (by have := hb.size; simp at this; omega); have hlt5 : wr.heap.size < w1.heap.size := (by have := hb.size; simp at this; omega); have hlt5b : wr.heap.size < w1.heap.size + 1 := (by omega); have hltqb : w.heap.size + 1 < w1.heap.size + 1 := (by omega); clear hb)
          have hs5 := SB.boxAt wr.heap.size 28 HQ.out
          have HQ2 := Aside0.mk ((HQ.out.set1 0 (.slice B0 v'.length d0)).set1 1 (.slice B1 cs'.length d1))
          have HHQ2 := Aside0.mk (HHQ.out.set2 (X' := B0) (n' := v'.length) (c' := d0) (Y' := B1) (m' := cs'.length) (d' := d1) hs5)
          have HHO2 := Aside0.mk (HHO.out.set2 (X' := B0) (n' := v'.length) (c' := d0) (Y' := B1) (m' := cs'.length) (d' := d1) hs5)
          go_roundw
          case rel =>
            have hs3 := SB.boxAt (w.heap.size + 1) 28 HQ2.out
            have hSB := (HQ2.out.swap.set1 0 (.slice B0 v'.length d0)).set1 1 (.slice B1 cs'.length d1)
            have hHS := HHQ2.out.set2 (X' := B0) (n' := v'.length) (c' := d0) (Y' := B1) (m' := cs'.length) (d' := d1) hs3
            exact ⟨i + 1, v', cs', B0, d0, B1, d1, by go_num, by omega, ⟨HGS.out.trans HR.out⟩, ⟨((hSB.pick [0, 2]).alloc (.cells #[.slice B0 v'.length d0, .slice B1 cs'.length d1] 28))⟩, ⟨(hHS.below (below_alloc (Below.refl _ _) _))⟩⟩
          case measure => simp [intOf]; omega
        · have hzb : (er == 0) = false := beq_eq_false_iff_ne.mpr hz
          rw [if_neg hz] at HR
          clear hz
          go_wp2_with (go_at_call 20; refine (HCT.out _ HHP.out).mono ?_; rintro e w1 ⟨B0, d0, B1, d1, rfl, hH1, hb⟩; have HQ := Aside0.mk (HP.out.below hb); have HHQ := Aside0.mk hH1; have HHO := Aside0.mk (HHP.out.below hb); clear hH1; have x2 := SB.boxAt wr.heap.size 28 HQ.out; have z0 := blk_cell x2 0; have z1 := blk_cell x2 1; have y0 := blk_fro x2 0; have y1 := blk_fro x2 1; clear x2; have x3 := SB.boxAt (w.heap.size + 1) 28 HQ.out; have m0 := blk_cell x3 0; have m1 := blk_cell x3 1; have n0 := blk_fro x3 0; have n1 := blk_fro x3 1; clear x3; have hltq : w.heap.size + 1 < w1.heap.size := (by have := hb.size; simp at this; omega); have hlt5 : wr.heap.size < w1.heap.size := (by have := hb.size; simp at this; omega); have hlt5b : wr.heap.size < w1.heap.size + 1 := (by omega); have hltqb : w.heap.size + 1 < w1.heap.size + 1 := (by omega); clear hb)
          have hs5 := SB.boxAt wr.heap.size 28 HQ.out
          have HQ2 := Aside0.mk ((HQ.out.set1 0 (.slice B0 v'.length d0)).set1 1 (.slice B1 cs'.length d1))
          have HHQ2 := Aside0.mk (HHQ.out.set2 (X' := B0) (n' := v'.length) (c' := d0) (Y' := B1) (m' := cs'.length) (d' := d1) hs5)
          have HHO2 := Aside0.mk (HHO.out.set2 (X' := B0) (n' := v'.length) (c' := d0) (Y' := B1) (m' := cs'.length) (d' := d1) hs5)
          go_roundw
          case rel => exact ⟨i + 1, v, cs, A0, c0, A1, c1, by go_num, by omega, ⟨HGS.out.trans HR.out⟩, ⟨((HQ2.out.pick [1, 2]).alloc (.cells #[.slice B0 v'.length d0, .slice B1 cs'.length d1] 28))⟩, ⟨(HHO2.out.below (below_alloc (Below.refl _ _) _))⟩⟩
          case measure => simp [intOf]; omega
      have e2 : (x.f0 == 2) = false := beq_eq_false_iff_ne.mpr ck
      by_cases ck : x.f0 = 3
      · skip
        have hgt : gTry v cs x = sWant v cs x.f2 := by unfold gTry; simp [ck]
        rw [ck] at q0
        obtain ⟨v', cs', er, hr⟩ : ∃ v' cs' er, sWant v cs x.f2 = (v', cs', er) := ⟨_, _, _, rfl⟩
        have HCT := Aside0.mk (show ∀ W, HoldS W A0 c0 A1 c1 v cs → Kd.C (Kd.int .u8) W A5 x.f2.length x.f2 → Calls Try.prog 14 #[.agg #[.slice A0 v.length c0, .slice A1 cs.length c1], .slice A5 x.f2.length c5] W fun e w' => ∃ B0 d0 B1 d1, e = .returned (.tuple #[.agg #[.slice B0 v'.length d0, .slice B1 cs'.length d1], .int .i64 er]) ∧ HoldS w' B0 d0 B1 d1 v' cs' ∧ Below W.heap.size W w' from fun W hH hC2 => by have := stkWantS (cl := c5) hH hC2 hm HX2.out; rw [hr] at this; exact this)
        have HR := Aside0.mk (show gStep (v, cs) x = if er = 0 then (v', cs') else (v, cs) from by unfold gStep; rw [hgt, hr])
        clear hgt hr ck
        by_cases hz : er = 0
        · have hzb : (er == 0) = true := beq_iff_eq.mpr hz
          rw [if_pos hz] at HR
          clear hz
          go_wp2
          have hHD := HP.out.drew
          refine rg_startL (n := 12) (S := fun w' => SB w w' [BoxO wr.heap.size 28 2 none, Box (w.heap.size + 1) #[.slice A0 v.length c0, .slice A1 cs.length c1] 28]) (bm 12 0) (by kernel_rfl) rfl (by kernel_rfl) (((hHD.boxHide 2).pick [0, 1])) (fun wd hwd hHeld => ?_)
          refine rg_take (i := 0) (N := some 53) (v := ?_) (a' := ?_) (bm 12 1) rfl rfl (by kernel_rfl) (fun _ _ _ h => h) hHeld (Or.inl ⟨by rfl, ?_⟩) ?_ ?_
          rotate_left
          · intro w' hw'
            have hbx := SB.boxAt (w.heap.size + 1) 28 hw'
            have s0 := blk_cell hbx 0
            have s1 := blk_cell hbx 1
            obtain ⟨r0, r1, r2⟩ := HAC.out w' hw'.bel
            go_simp
            with_reducible rfl
          rotate_left
          · simp only [Act.put, List.setIfInBounds_toArray, List.set_cons_zero, List.set_cons_succ]
            rfl
          refine rg_take (i := 1) (N := some 54) (v := ?_) (a' := ?_) (bm 12 3) rfl rfl (by kernel_rfl) (fun _ _ _ h => h) hHeld (Or.inl ⟨by rfl, ?_⟩) ?_ ?_
          rotate_left
          · intro w' hw'
            have hbx := SB.boxAt (w.heap.size + 1) 28 hw'
            have s0 := blk_cell hbx 0
            have s1 := blk_cell hbx 1
            obtain ⟨r0, r1, r2⟩ := HAC.out w' hw'.bel
            go_simp
            with_reducible rfl
          rotate_left
          · simp only [Act.put, List.setIfInBounds_toArray, List.set_cons_zero, List.set_cons_succ]
            rfl
          refine rg_take (i := 2) (N := some 55) (v := ?_) (a' := ?_) (bm 12 7) rfl rfl (by kernel_rfl) (fun _ _ _ h => h) hHeld (Or.inl ⟨by rfl, ?_⟩) ?_ ?_
          rotate_left
          · intro w' hw'
            have hbx := SB.boxAt (w.heap.size + 1) 28 hw'
            have s0 := blk_cell hbx 0
            have s1 := blk_cell hbx 1
            obtain ⟨r0, r1, r2⟩ := HAC.out w' hw'.bel
            go_simp
            with_reducible rfl
          rotate_left
          · simp only [Act.put, List.setIfInBounds_toArray, List.set_cons_zero, List.set_cons_succ]
            rfl
          refine rg_take (i := 3) (N := some 56) (v := ?_) (a' := ?_) (bm 12 15) rfl rfl (by kernel_rfl) (fun _ _ _ h => h) hHeld (Or.inl ⟨by rfl, ?_⟩) ?_ ?_
          rotate_left
          · intro w' hw'
            have hbx := SB.boxAt (w.heap.size + 1) 28 hw'
            have s0 := blk_cell hbx 0
            have s1 := blk_cell hbx 1
            obtain ⟨r0, r1, r2⟩ := HAC.out w' hw'.bel
            go_simp
            with_reducible rfl
          rotate_left
          · simp only [Act.put, List.setIfInBounds_toArray, List.set_cons_zero, List.set_cons_succ]
            rfl
          refine rg_take (i := 4) (N := some 57) (v := ?_) (a' := ?_) (bm 12 31) rfl rfl (by kernel_rfl) (fun _ _ _ h => h) hHeld (Or.inl ⟨by rfl, ?_⟩) ?_ ?_
          rotate_left
          · intro w' hw'
            have hbx := SB.boxAt (w.heap.size + 1) 28 hw'
            have s0 := blk_cell hbx 0
            have s1 := blk_cell hbx 1
            obtain ⟨r0, r1, r2⟩ := HAC.out w' hw'.bel
            go_simp
            with_reducible rfl
          rotate_left
          · simp only [Act.put, List.setIfInBounds_toArray, List.set_cons_zero, List.set_cons_succ]
            rfl
          refine rg_take (i := 5) (N := some 58) (v := ?_) (a' := ?_) (bm 12 63) rfl rfl (by kernel_rfl) (fun _ _ _ h => h) hHeld (Or.inl ⟨by rfl, ?_⟩) ?_ ?_
          rotate_left
          · intro w' hw'
            have hbx := SB.boxAt (w.heap.size + 1) 28 hw'
            have s0 := blk_cell hbx 0
            have s1 := blk_cell hbx 1
            obtain ⟨r0, r1, r2⟩ := HAC.out w' hw'.bel
            go_simp
            with_reducible rfl
          rotate_left
          · simp only [Act.put, List.setIfInBounds_toArray, List.set_cons_zero, List.set_cons_succ]
            rfl
          refine rg_ready [6] (by kernel_rfl) (by simp) ?_
          refine rg_one (i := 6) (N := some 59) (bm 12 127) rfl rfl (by kernel_rfl) (fun K hK => ?_) rg_nil
          have hHd : SB w wd _ := hwd.out ▸ hHD
          have hHHd : HoldS wd A0 c0 A1 c1 v cs := hwd.out ▸ (HHP.out.below (below_drew (Below.refl _ _)))
          go_simp
          go_at_call 14
          with_reducible refine (HCT.out _ hHHd (Kd.C_below HC5.out hHd.bel)).mono ?_
          rintro e wx6r17 ⟨B0, d0, B1, d1, rfl, hH1, hb⟩
          have HQ := Aside0.mk (hHd.below hb)
          have HHQ := Aside0.mk hH1
          have HHO := Aside0.mk (hHHd.below hb)
          have hnew := hHeld.below hb
          clear hH1 hb
          go_wp2_with fail
          refine hK.out _ _ hnew ?_
          clear hK K
          refine rg_norm (a' := ?_) ?_ ?_
          rotate_left
          · simp only [Act.put, List.setIfInBounds_toArray, List.set_cons_zero, List.set_cons_succ]
            rfl
          clear hHeld
          have hHeld := hnew
          clear hnew
          refine rg_take (i := 7) (N := some 52) (v := ?_) (a' := ?_) (bm 12 255) rfl rfl (by kernel_rfl) (fun _ _ _ h => h) hHeld (Or.inl ⟨by rfl, ?_⟩) ?_ ?_
          rotate_left
          · intro w' hw'
            have hbx := SB.boxAt (w.heap.size + 1) 28 hw'
            have s0 := blk_cell hbx 0
            have s1 := blk_cell hbx 1
            obtain ⟨r0, r1, r2⟩ := HAC.out w' hw'.bel
            go_simp
            with_reducible rfl
          rotate_left
          · simp only [Act.put, List.setIfInBounds_toArray, List.set_cons_zero, List.set_cons_succ]
            rfl
          refine rg_take (i := 8) (N := some 60) (v := ?_) (a' := ?_) (bm 12 511) rfl rfl (by kernel_rfl) (fun _ _ _ h => h) hHeld (Or.inl ⟨by rfl, ?_⟩) ?_ ?_
          rotate_left
          · intro w' hw'
            have hbx := SB.boxAt (w.heap.size + 1) 28 hw'
            have s0 := blk_cell hbx 0
            have s1 := blk_cell hbx 1
            obtain ⟨r0, r1, r2⟩ := HAC.out w' hw'.bel
            go_simp
            with_reducible rfl
          rotate_left
          · simp only [Act.put, List.setIfInBounds_toArray, List.set_cons_zero, List.set_cons_succ]
            rfl
          refine rg_take (i := 9) (N := some 61) (v := ?_) (a' := ?_) (bm 12 1023) rfl rfl (by kernel_rfl) (fun _ _ _ h => h) hHeld (Or.inl ⟨by rfl, ?_⟩) ?_ ?_
          rotate_left
          · intro w' hw'
            have hbx := SB.boxAt (w.heap.size + 1) 28 hw'
            have s0 := blk_cell hbx 0
            have s1 := blk_cell hbx 1
            obtain ⟨r0, r1, r2⟩ := HAC.out w' hw'.bel
            go_simp
            with_reducible rfl
          rotate_left
          · simp only [Act.put, List.setIfInBounds_toArray, List.set_cons_zero, List.set_cons_succ]
            rfl
          refine rg_ready [10] (by kernel_rfl) (by simp) ?_
          refine rg_one (i := 10) (N := none) (bm 12 2047) rfl rfl (by kernel_rfl) (fun K hK => ?_) rg_nil
          have hs5 := SB.boxAt wr.heap.size 28 HQ.out
          have z0 := blk_cell hs5 0
          have z1 := blk_cell hs5 1
          have y0 := blk_fro hs5 0
          have y1 := blk_fro hs5 1
          have hq2 := (HQ.out.set1 0 (.slice B0 v'.length d0)).set1 1 (.slice B1 cs'.length d1)
          have HQ2 := Aside0.mk hq2
          have HHQ2 := Aside0.mk (HHQ.out.set2 (X' := B0) (n' := v'.length) (c' := d0) (Y' := B1) (m' := cs'.length) (d' := d1) hs5)
          have HHO2 := Aside0.mk (HHO.out.set2 (X' := B0) (n' := v'.length) (c' := d0) (Y' := B1) (m' := cs'.length) (d' := d1) hs5)
          have hnew := (hq2.boxHide 2).pick [0, 1]
          clear hq2
          go_simp
          refine hK.out undef _ hnew ?_
          clear hK K
          refine rg_norm (a' := ?_) ?_ ?_
          rotate_left
          · simp only [Act.put, List.setIfInBounds_toArray, List.set_cons_zero, List.set_cons_succ]
            rfl
          clear hHeld
          have hHeld := hnew
          clear hnew
          refine rg_take (i := 11) (N := some 6) (v := ?_) (a' := ?_) (bm 12 4095) rfl rfl (by kernel_rfl) (fun _ _ _ h => h) hHeld (Or.inl ⟨by rfl, ?_⟩) ?_ ?_
          rotate_left
          · intro w' hw'
            have hbx := SB.boxAt (w.heap.size + 1) 28 hw'
            have s0 := blk_cell hbx 0
            have s1 := blk_cell hbx 1
            obtain ⟨r0, r1, r2⟩ := HAC.out w' hw'.bel
            go_simp
            with_reducible rfl
          rotate_left
          · simp only [Act.put, List.setIfInBounds_toArray, List.set_cons_zero, List.set_cons_succ]
            rfl
          refine rg_done (by kernel_rfl) ?_
          have x2 := SB.boxAt wr.heap.size 28 HQ2.out
          have u0 := blk_cell x2 0
          have u1 := blk_cell x2 1
          have x3 := SB.boxAt (w.heap.size + 1) 28 HQ2.out
          have m0 := blk_cell x3 0
          have m1 := blk_cell x3 1
          have n0 := blk_fro x3 0
          have n1 := blk_fro x3 1
          go_wp2
          go_roundw
          case rel =>
            have hSB := (HQ2.out.swap.set1 0 (.slice B0 v'.length d0)).set1 1 (.slice B1 cs'.length d1)
            have hHS := HHQ2.out.set2 (X' := B0) (n' := v'.length) (c' := d0) (Y' := B1) (m' := cs'.length) (d' := d1) x3
            exact ⟨i + 1, v', cs', B0, d0, B1, d1, by go_num, by omega, ⟨HGS.out.trans HR.out⟩, ⟨hSB.pick [0, 2]⟩, ⟨hHS⟩⟩
          case measure => simp [intOf]; omega
        · have hzb : (er == 0) = false := beq_eq_false_iff_ne.mpr hz
          rw [if_neg hz] at HR
          clear hz
          go_wp2
          have hHD := HP.out.drew
          refine rg_startL (n := 12) (S := fun w' => SB w w' [BoxO wr.heap.size 28 2 none, Box (w.heap.size + 1) #[.slice A0 v.length c0, .slice A1 cs.length c1] 28]) (bm 12 0) (by kernel_rfl) rfl (by kernel_rfl) (((hHD.boxHide 2).pick [0, 1])) (fun wd hwd hHeld => ?_)
          refine rg_take (i := 0) (N := some 53) (v := ?_) (a' := ?_) (bm 12 1) rfl rfl (by kernel_rfl) (fun _ _ _ h => h) hHeld (Or.inl ⟨by rfl, ?_⟩) ?_ ?_
          rotate_left
          · intro w' hw'
            have hbx := SB.boxAt (w.heap.size + 1) 28 hw'
            have s0 := blk_cell hbx 0
            have s1 := blk_cell hbx 1
            obtain ⟨r0, r1, r2⟩ := HAC.out w' hw'.bel
            go_simp
            with_reducible rfl
          rotate_left
          · simp only [Act.put, List.setIfInBounds_toArray, List.set_cons_zero, List.set_cons_succ]
            rfl
          refine rg_take (i := 1) (N := some 54) (v := ?_) (a' := ?_) (bm 12 3) rfl rfl (by kernel_rfl) (fun _ _ _ h => h) hHeld (Or.inl ⟨by rfl, ?_⟩) ?_ ?_
          rotate_left
          · intro w' hw'
            have hbx := SB.boxAt (w.heap.size + 1) 28 hw'
            have s0 := blk_cell hbx 0
            have s1 := blk_cell hbx 1
            obtain ⟨r0, r1, r2⟩ := HAC.out w' hw'.bel
            go_simp
            with_reducible rfl
          rotate_left
          · simp only [Act.put, List.setIfInBounds_toArray, List.set_cons_zero, List.set_cons_succ]
            rfl
          refine rg_take (i := 2) (N := some 55) (v := ?_) (a' := ?_) (bm 12 7) rfl rfl (by kernel_rfl) (fun _ _ _ h => h) hHeld (Or.inl ⟨by rfl, ?_⟩) ?_ ?_
          rotate_left
          · intro w' hw'
            have hbx := SB.boxAt (w.heap.size + 1) 28 hw'
            have s0 := blk_cell hbx 0
            have s1 := blk_cell hbx 1
            obtain ⟨r0, r1, r2⟩ := HAC.out w' hw'.bel
            go_simp
            with_reducible rfl
          rotate_left
          · simp only [Act.put, List.setIfInBounds_toArray, List.set_cons_zero, List.set_cons_succ]
            rfl
          refine rg_take (i := 3) (N := some 56) (v := ?_) (a' := ?_) (bm 12 15) rfl rfl (by kernel_rfl) (fun _ _ _ h => h) hHeld (Or.inl ⟨by rfl, ?_⟩) ?_ ?_
          rotate_left
          · intro w' hw'
            have hbx := SB.boxAt (w.heap.size + 1) 28 hw'
            have s0 := blk_cell hbx 0
            have s1 := blk_cell hbx 1
            obtain ⟨r0, r1, r2⟩ := HAC.out w' hw'.bel
            go_simp
            with_reducible rfl
          rotate_left
          · simp only [Act.put, List.setIfInBounds_toArray, List.set_cons_zero, List.set_cons_succ]
            rfl
          refine rg_take (i := 4) (N := some 57) (v := ?_) (a' := ?_) (bm 12 31) rfl rfl (by kernel_rfl) (fun _ _ _ h => h) hHeld (Or.inl ⟨by rfl, ?_⟩) ?_ ?_
          rotate_left
          · intro w' hw'
            have hbx := SB.boxAt (w.heap.size + 1) 28 hw'
            have s0 := blk_cell hbx 0
            have s1 := blk_cell hbx 1
            obtain ⟨r0, r1, r2⟩ := HAC.out w' hw'.bel
            go_simp
            with_reducible rfl
          rotate_left
          · simp only [Act.put, List.setIfInBounds_toArray, List.set_cons_zero, List.set_cons_succ]
            rfl
          refine rg_take (i := 5) (N := some 58) (v := ?_) (a' := ?_) (bm 12 63) rfl rfl (by kernel_rfl) (fun _ _ _ h => h) hHeld (Or.inl ⟨by rfl, ?_⟩) ?_ ?_
          rotate_left
          · intro w' hw'
            have hbx := SB.boxAt (w.heap.size + 1) 28 hw'
            have s0 := blk_cell hbx 0
            have s1 := blk_cell hbx 1
            obtain ⟨r0, r1, r2⟩ := HAC.out w' hw'.bel
            go_simp
            with_reducible rfl
          rotate_left
          · simp only [Act.put, List.setIfInBounds_toArray, List.set_cons_zero, List.set_cons_succ]
            rfl
          refine rg_ready [6] (by kernel_rfl) (by simp) ?_
          refine rg_one (i := 6) (N := some 59) (bm 12 127) rfl rfl (by kernel_rfl) (fun K hK => ?_) rg_nil
          have hHd : SB w wd _ := hwd.out ▸ hHD
          have hHHd : HoldS wd A0 c0 A1 c1 v cs := hwd.out ▸ (HHP.out.below (below_drew (Below.refl _ _)))
          go_simp
          go_at_call 14
          with_reducible refine (HCT.out _ hHHd (Kd.C_below HC5.out hHd.bel)).mono ?_
          rintro e wx6r17 ⟨B0, d0, B1, d1, rfl, hH1, hb⟩
          have HQ := Aside0.mk (hHd.below hb)
          have HHQ := Aside0.mk hH1
          have HHO := Aside0.mk (hHHd.below hb)
          have hnew := hHeld.below hb
          clear hH1 hb
          go_wp2_with fail
          refine hK.out _ _ hnew ?_
          clear hK K
          refine rg_norm (a' := ?_) ?_ ?_
          rotate_left
          · simp only [Act.put, List.setIfInBounds_toArray, List.set_cons_zero, List.set_cons_succ]
            rfl
          clear hHeld
          have hHeld := hnew
          clear hnew
          refine rg_take (i := 7) (N := some 52) (v := ?_) (a' := ?_) (bm 12 255) rfl rfl (by kernel_rfl) (fun _ _ _ h => h) hHeld (Or.inl ⟨by rfl, ?_⟩) ?_ ?_
          rotate_left
          · intro w' hw'
            have hbx := SB.boxAt (w.heap.size + 1) 28 hw'
            have s0 := blk_cell hbx 0
            have s1 := blk_cell hbx 1
            obtain ⟨r0, r1, r2⟩ := HAC.out w' hw'.bel
            go_simp
            with_reducible rfl
          rotate_left
          · simp only [Act.put, List.setIfInBounds_toArray, List.set_cons_zero, List.set_cons_succ]
            rfl
          refine rg_take (i := 8) (N := some 60) (v := ?_) (a' := ?_) (bm 12 511) rfl rfl (by kernel_rfl) (fun _ _ _ h => h) hHeld (Or.inl ⟨by rfl, ?_⟩) ?_ ?_
          rotate_left
          · intro w' hw'
            have hbx := SB.boxAt (w.heap.size + 1) 28 hw'
            have s0 := blk_cell hbx 0
            have s1 := blk_cell hbx 1
            obtain ⟨r0, r1, r2⟩ := HAC.out w' hw'.bel
            go_simp
            with_reducible rfl
          rotate_left
          · simp only [Act.put, List.setIfInBounds_toArray, List.set_cons_zero, List.set_cons_succ]
            rfl
          refine rg_take (i := 9) (N := some 61) (v := ?_) (a' := ?_) (bm 12 1023) rfl rfl (by kernel_rfl) (fun _ _ _ h => h) hHeld (Or.inl ⟨by rfl, ?_⟩) ?_ ?_
          rotate_left
          · intro w' hw'
            have hbx := SB.boxAt (w.heap.size + 1) 28 hw'
            have s0 := blk_cell hbx 0
            have s1 := blk_cell hbx 1
            obtain ⟨r0, r1, r2⟩ := HAC.out w' hw'.bel
            go_simp
            with_reducible rfl
          rotate_left
          · simp only [Act.put, List.setIfInBounds_toArray, List.set_cons_zero, List.set_cons_succ]
            rfl
          refine rg_ready [10] (by kernel_rfl) (by simp) ?_
          refine rg_one (i := 10) (N := none) (bm 12 2047) rfl rfl (by kernel_rfl) (fun K hK => ?_) rg_nil
          have hs5 := SB.boxAt wr.heap.size 28 HQ.out
          have z0 := blk_cell hs5 0
          have z1 := blk_cell hs5 1
          have y0 := blk_fro hs5 0
          have y1 := blk_fro hs5 1
          have hq2 := (HQ.out.set1 0 (.slice B0 v'.length d0)).set1 1 (.slice B1 cs'.length d1)
          have HQ2 := Aside0.mk hq2
          have HHQ2 := Aside0.mk (HHQ.out.set2 (X' := B0) (n' := v'.length) (c' := d0) (Y' := B1) (m' := cs'.length) (d' := d1) hs5)
          have HHO2 := Aside0.mk (HHO.out.set2 (X' := B0) (n' := v'.length) (c' := d0) (Y' := B1) (m' := cs'.length) (d' := d1) hs5)
          have hnew := (hq2.boxHide 2).pick [0, 1]
          clear hq2
          go_simp
          refine hK.out undef _ hnew ?_
          clear hK K
          refine rg_norm (a' := ?_) ?_ ?_
          rotate_left
          · simp only [Act.put, List.setIfInBounds_toArray, List.set_cons_zero, List.set_cons_succ]
            rfl
          clear hHeld
          have hHeld := hnew
          clear hnew
          refine rg_take (i := 11) (N := some 6) (v := ?_) (a' := ?_) (bm 12 4095) rfl rfl (by kernel_rfl) (fun _ _ _ h => h) hHeld (Or.inl ⟨by rfl, ?_⟩) ?_ ?_
          rotate_left
          · intro w' hw'
            have hbx := SB.boxAt (w.heap.size + 1) 28 hw'
            have s0 := blk_cell hbx 0
            have s1 := blk_cell hbx 1
            obtain ⟨r0, r1, r2⟩ := HAC.out w' hw'.bel
            go_simp
            with_reducible rfl
          rotate_left
          · simp only [Act.put, List.setIfInBounds_toArray, List.set_cons_zero, List.set_cons_succ]
            rfl
          refine rg_done (by kernel_rfl) ?_
          have x2 := SB.boxAt wr.heap.size 28 HQ2.out
          have u0 := blk_cell x2 0
          have u1 := blk_cell x2 1
          have x3 := SB.boxAt (w.heap.size + 1) 28 HQ2.out
          have m0 := blk_cell x3 0
          have m1 := blk_cell x3 1
          have n0 := blk_fro x3 0
          have n1 := blk_fro x3 1
          go_wp2
          go_roundw
          case rel => exact ⟨i + 1, v, cs, A0, c0, A1, c1, by go_num, by omega, ⟨HGS.out.trans HR.out⟩, ⟨HQ2.out.pick [1, 2]⟩, ⟨HHO2.out⟩⟩
          case measure => simp [intOf]; omega
      have e3 : (x.f0 == 3) = false := beq_eq_false_iff_ne.mpr ck
      by_cases ck : x.f0 = 4
      · skip
        have hgt : gTry v cs x = sWant v cs x.f2 := by unfold gTry; simp [ck]
        rw [ck] at q0
        obtain ⟨v', cs', er, hr⟩ : ∃ v' cs' er, sWant v cs x.f2 = (v', cs', er) := ⟨_, _, _, rfl⟩
        have HCT := Aside0.mk (show ∀ W, HoldS W A0 c0 A1 c1 v cs → Kd.C (Kd.int .u8) W A5 x.f2.length x.f2 → Calls Try.prog 14 #[.agg #[.slice A0 v.length c0, .slice A1 cs.length c1], .slice A5 x.f2.length c5] W fun e w' => ∃ B0 d0 B1 d1, e = .returned (.tuple #[.agg #[.slice B0 v'.length d0, .slice B1 cs'.length d1], .int .i64 er]) ∧ HoldS w' B0 d0 B1 d1 v' cs' ∧ Below W.heap.size W w' from fun W hH hC2 => by have := stkWantS (cl := c5) hH hC2 hm HX2.out; rw [hr] at this; exact this)
        have HR := Aside0.mk (show gStep (v, cs) x = if er = 0 then (v', cs') else (v, cs) from by unfold gStep; rw [hgt, hr])
        clear hgt hr ck
        by_cases hz : er = 0
        · have hzb : (er == 0) = true := beq_iff_eq.mpr hz
          rw [if_pos hz] at HR
          clear hz
          go_wp2
          have hHD := HP.out.drew
          refine rg_startL (n := 12) (S := fun w' => SB w w' [BoxO wr.heap.size 28 2 none, Box (w.heap.size + 1) #[.slice A0 v.length c0, .slice A1 cs.length c1] 28]) (bm 12 0) (by kernel_rfl) rfl (by kernel_rfl) (((hHD.boxHide 2).pick [0, 1])) (fun wd hwd hHeld => ?_)
          refine rg_take (i := 0) (N := some 53) (v := ?_) (a' := ?_) (bm 12 1) rfl rfl (by kernel_rfl) (fun _ _ _ h => h) hHeld (Or.inl ⟨by rfl, ?_⟩) ?_ ?_
          rotate_left
          · intro w' hw'
            have hbx := SB.boxAt (w.heap.size + 1) 28 hw'
            have s0 := blk_cell hbx 0
            have s1 := blk_cell hbx 1
            obtain ⟨r0, r1, r2⟩ := HAC.out w' hw'.bel
            go_simp
            with_reducible rfl
          rotate_left
          · simp only [Act.put, List.setIfInBounds_toArray, List.set_cons_zero, List.set_cons_succ]
            rfl
          refine rg_take (i := 1) (N := some 54) (v := ?_) (a' := ?_) (bm 12 3) rfl rfl (by kernel_rfl) (fun _ _ _ h => h) hHeld (Or.inl ⟨by rfl, ?_⟩) ?_ ?_
          rotate_left
          · intro w' hw'
            have hbx := SB.boxAt (w.heap.size + 1) 28 hw'
            have s0 := blk_cell hbx 0
            have s1 := blk_cell hbx 1
            obtain ⟨r0, r1, r2⟩ := HAC.out w' hw'.bel
            go_simp
            with_reducible rfl
          rotate_left
          · simp only [Act.put, List.setIfInBounds_toArray, List.set_cons_zero, List.set_cons_succ]
            rfl
          refine rg_take (i := 2) (N := some 55) (v := ?_) (a' := ?_) (bm 12 7) rfl rfl (by kernel_rfl) (fun _ _ _ h => h) hHeld (Or.inl ⟨by rfl, ?_⟩) ?_ ?_
          rotate_left
          · intro w' hw'
            have hbx := SB.boxAt (w.heap.size + 1) 28 hw'
            have s0 := blk_cell hbx 0
            have s1 := blk_cell hbx 1
            obtain ⟨r0, r1, r2⟩ := HAC.out w' hw'.bel
            go_simp
            with_reducible rfl
          rotate_left
          · simp only [Act.put, List.setIfInBounds_toArray, List.set_cons_zero, List.set_cons_succ]
            rfl
          refine rg_take (i := 3) (N := some 56) (v := ?_) (a' := ?_) (bm 12 15) rfl rfl (by kernel_rfl) (fun _ _ _ h => h) hHeld (Or.inl ⟨by rfl, ?_⟩) ?_ ?_
          rotate_left
          · intro w' hw'
            have hbx := SB.boxAt (w.heap.size + 1) 28 hw'
            have s0 := blk_cell hbx 0
            have s1 := blk_cell hbx 1
            obtain ⟨r0, r1, r2⟩ := HAC.out w' hw'.bel
            go_simp
            with_reducible rfl
          rotate_left
          · simp only [Act.put, List.setIfInBounds_toArray, List.set_cons_zero, List.set_cons_succ]
            rfl
          refine rg_take (i := 4) (N := some 57) (v := ?_) (a' := ?_) (bm 12 31) rfl rfl (by kernel_rfl) (fun _ _ _ h => h) hHeld (Or.inl ⟨by rfl, ?_⟩) ?_ ?_
          rotate_left
          · intro w' hw'
            have hbx := SB.boxAt (w.heap.size + 1) 28 hw'
            have s0 := blk_cell hbx 0
            have s1 := blk_cell hbx 1
            obtain ⟨r0, r1, r2⟩ := HAC.out w' hw'.bel
            go_simp
            with_reducible rfl
          rotate_left
          · simp only [Act.put, List.setIfInBounds_toArray, List.set_cons_zero, List.set_cons_succ]
            rfl
          refine rg_take (i := 5) (N := some 58) (v := ?_) (a' := ?_) (bm 12 63) rfl rfl (by kernel_rfl) (fun _ _ _ h => h) hHeld (Or.inl ⟨by rfl, ?_⟩) ?_ ?_
          rotate_left
          · intro w' hw'
            have hbx := SB.boxAt (w.heap.size + 1) 28 hw'
            have s0 := blk_cell hbx 0
            have s1 := blk_cell hbx 1
            obtain ⟨r0, r1, r2⟩ := HAC.out w' hw'.bel
            go_simp
            with_reducible rfl
          rotate_left
          · simp only [Act.put, List.setIfInBounds_toArray, List.set_cons_zero, List.set_cons_succ]
            rfl
          refine rg_ready [6] (by kernel_rfl) (by simp) ?_
          refine rg_one (i := 6) (N := some 59) (bm 12 127) rfl rfl (by kernel_rfl) (fun K hK => ?_) rg_nil
          have hHd : SB w wd _ := hwd.out ▸ hHD
          have hHHd : HoldS wd A0 c0 A1 c1 v cs := hwd.out ▸ (HHP.out.below (below_drew (Below.refl _ _)))
          go_simp
          go_at_call 14
          with_reducible refine (HCT.out _ hHHd (Kd.C_below HC5.out hHd.bel)).mono ?_
          rintro e wx6r17 ⟨B0, d0, B1, d1, rfl, hH1, hb⟩
          have HQ := Aside0.mk (hHd.below hb)
          have HHQ := Aside0.mk hH1
          have HHO := Aside0.mk (hHHd.below hb)
          have hnew := hHeld.below hb
          clear hH1 hb
          go_wp2_with fail
          refine hK.out _ _ hnew ?_
          clear hK K
          refine rg_norm (a' := ?_) ?_ ?_
          rotate_left
          · simp only [Act.put, List.setIfInBounds_toArray, List.set_cons_zero, List.set_cons_succ]
            rfl
          clear hHeld
          have hHeld := hnew
          clear hnew
          refine rg_take (i := 7) (N := some 52) (v := ?_) (a' := ?_) (bm 12 255) rfl rfl (by kernel_rfl) (fun _ _ _ h => h) hHeld (Or.inl ⟨by rfl, ?_⟩) ?_ ?_
          rotate_left
          · intro w' hw'
            have hbx := SB.boxAt (w.heap.size + 1) 28 hw'
            have s0 := blk_cell hbx 0
            have s1 := blk_cell hbx 1
            obtain ⟨r0, r1, r2⟩ := HAC.out w' hw'.bel
            go_simp
            with_reducible rfl
          rotate_left
          · simp only [Act.put, List.setIfInBounds_toArray, List.set_cons_zero, List.set_cons_succ]
            rfl
          refine rg_take (i := 8) (N := some 60) (v := ?_) (a' := ?_) (bm 12 511) rfl rfl (by kernel_rfl) (fun _ _ _ h => h) hHeld (Or.inl ⟨by rfl, ?_⟩) ?_ ?_
          rotate_left
          · intro w' hw'
            have hbx := SB.boxAt (w.heap.size + 1) 28 hw'
            have s0 := blk_cell hbx 0
            have s1 := blk_cell hbx 1
            obtain ⟨r0, r1, r2⟩ := HAC.out w' hw'.bel
            go_simp
            with_reducible rfl
          rotate_left
          · simp only [Act.put, List.setIfInBounds_toArray, List.set_cons_zero, List.set_cons_succ]
            rfl
          refine rg_take (i := 9) (N := some 61) (v := ?_) (a' := ?_) (bm 12 1023) rfl rfl (by kernel_rfl) (fun _ _ _ h => h) hHeld (Or.inl ⟨by rfl, ?_⟩) ?_ ?_
          rotate_left
          · intro w' hw'
            have hbx := SB.boxAt (w.heap.size + 1) 28 hw'
            have s0 := blk_cell hbx 0
            have s1 := blk_cell hbx 1
            obtain ⟨r0, r1, r2⟩ := HAC.out w' hw'.bel
            go_simp
            with_reducible rfl
          rotate_left
          · simp only [Act.put, List.setIfInBounds_toArray, List.set_cons_zero, List.set_cons_succ]
            rfl
          refine rg_ready [10] (by kernel_rfl) (by simp) ?_
          refine rg_one (i := 10) (N := none) (bm 12 2047) rfl rfl (by kernel_rfl) (fun K hK => ?_) rg_nil
          have hs5 := SB.boxAt wr.heap.size 28 HQ.out
          have z0 := blk_cell hs5 0
          have z1 := blk_cell hs5 1
          have y0 := blk_fro hs5 0
          have y1 := blk_fro hs5 1
          have hq2 := (HQ.out.set1 0 (.slice B0 v'.length d0)).set1 1 (.slice B1 cs'.length d1)
          have HQ2 := Aside0.mk hq2
          have HHQ2 := Aside0.mk (HHQ.out.set2 (X' := B0) (n' := v'.length) (c' := d0) (Y' := B1) (m' := cs'.length) (d' := d1) hs5)
          have HHO2 := Aside0.mk (HHO.out.set2 (X' := B0) (n' := v'.length) (c' := d0) (Y' := B1) (m' := cs'.length) (d' := d1) hs5)
          have hnew := (hq2.boxHide 2).pick [0, 1]
          clear hq2
          go_simp
          refine hK.out undef _ hnew ?_
          clear hK K
          refine rg_norm (a' := ?_) ?_ ?_
          rotate_left
          · simp only [Act.put, List.setIfInBounds_toArray, List.set_cons_zero, List.set_cons_succ]
            rfl
          clear hHeld
          have hHeld := hnew
          clear hnew
          refine rg_take (i := 11) (N := some 6) (v := ?_) (a' := ?_) (bm 12 4095) rfl rfl (by kernel_rfl) (fun _ _ _ h => h) hHeld (Or.inl ⟨by rfl, ?_⟩) ?_ ?_
          rotate_left
          · intro w' hw'
            have hbx := SB.boxAt (w.heap.size + 1) 28 hw'
            have s0 := blk_cell hbx 0
            have s1 := blk_cell hbx 1
            obtain ⟨r0, r1, r2⟩ := HAC.out w' hw'.bel
            go_simp
            with_reducible rfl
          rotate_left
          · simp only [Act.put, List.setIfInBounds_toArray, List.set_cons_zero, List.set_cons_succ]
            rfl
          refine rg_done (by kernel_rfl) ?_
          have x2 := SB.boxAt wr.heap.size 28 HQ2.out
          have u0 := blk_cell x2 0
          have u1 := blk_cell x2 1
          have x3 := SB.boxAt (w.heap.size + 1) 28 HQ2.out
          have m0 := blk_cell x3 0
          have m1 := blk_cell x3 1
          have n0 := blk_fro x3 0
          have n1 := blk_fro x3 1
          go_wp2
          go_roundw
          case rel =>
            have hSB := (HQ2.out.swap.set1 0 (.slice B0 v'.length d0)).set1 1 (.slice B1 cs'.length d1)
            have hHS := HHQ2.out.set2 (X' := B0) (n' := v'.length) (c' := d0) (Y' := B1) (m' := cs'.length) (d' := d1) x3
            exact ⟨i + 1, v', cs', B0, d0, B1, d1, by go_num, by omega, ⟨HGS.out.trans HR.out⟩, ⟨hSB.pick [0, 2]⟩, ⟨hHS⟩⟩
          case measure => simp [intOf]; omega
        · have hzb : (er == 0) = false := beq_eq_false_iff_ne.mpr hz
          rw [if_neg hz] at HR
          clear hz
          go_wp2
          have hHD := HP.out.drew
          refine rg_startL (n := 12) (S := fun w' => SB w w' [BoxO wr.heap.size 28 2 none, Box (w.heap.size + 1) #[.slice A0 v.length c0, .slice A1 cs.length c1] 28]) (bm 12 0) (by kernel_rfl) rfl (by kernel_rfl) (((hHD.boxHide 2).pick [0, 1])) (fun wd hwd hHeld => ?_)
          refine rg_take (i := 0) (N := some 53) (v := ?_) (a' := ?_) (bm 12 1) rfl rfl (by kernel_rfl) (fun _ _ _ h => h) hHeld (Or.inl ⟨by rfl, ?_⟩) ?_ ?_
          rotate_left
          · intro w' hw'
            have hbx := SB.boxAt (w.heap.size + 1) 28 hw'
            have s0 := blk_cell hbx 0
            have s1 := blk_cell hbx 1
            obtain ⟨r0, r1, r2⟩ := HAC.out w' hw'.bel
            go_simp
            with_reducible rfl
          rotate_left
          · simp only [Act.put, List.setIfInBounds_toArray, List.set_cons_zero, List.set_cons_succ]
            rfl
          refine rg_take (i := 1) (N := some 54) (v := ?_) (a' := ?_) (bm 12 3) rfl rfl (by kernel_rfl) (fun _ _ _ h => h) hHeld (Or.inl ⟨by rfl, ?_⟩) ?_ ?_
          rotate_left
          · intro w' hw'
            have hbx := SB.boxAt (w.heap.size + 1) 28 hw'
            have s0 := blk_cell hbx 0
            have s1 := blk_cell hbx 1
            obtain ⟨r0, r1, r2⟩ := HAC.out w' hw'.bel
            go_simp
            with_reducible rfl
          rotate_left
          · simp only [Act.put, List.setIfInBounds_toArray, List.set_cons_zero, List.set_cons_succ]
            rfl
          refine rg_take (i := 2) (N := some 55) (v := ?_) (a' := ?_) (bm 12 7) rfl rfl (by kernel_rfl) (fun _ _ _ h => h) hHeld (Or.inl ⟨by rfl, ?_⟩) ?_ ?_
          rotate_left
          · intro w' hw'
            have hbx := SB.boxAt (w.heap.size + 1) 28 hw'
            have s0 := blk_cell hbx 0
            have s1 := blk_cell hbx 1
            obtain ⟨r0, r1, r2⟩ := HAC.out w' hw'.bel
            go_simp
            with_reducible rfl
          rotate_left
          · simp only [Act.put, List.setIfInBounds_toArray, List.set_cons_zero, List.set_cons_succ]
            rfl
          refine rg_take (i := 3) (N := some 56) (v := ?_) (a' := ?_) (bm 12 15) rfl rfl (by kernel_rfl) (fun _ _ _ h => h) hHeld (Or.inl ⟨by rfl, ?_⟩) ?_ ?_
          rotate_left
          · intro w' hw'
            have hbx := SB.boxAt (w.heap.size + 1) 28 hw'
            have s0 := blk_cell hbx 0
            have s1 := blk_cell hbx 1
            obtain ⟨r0, r1, r2⟩ := HAC.out w' hw'.bel
            go_simp
            with_reducible rfl
          rotate_left
          · simp only [Act.put, List.setIfInBounds_toArray, List.set_cons_zero, List.set_cons_succ]
            rfl
          refine rg_take (i := 4) (N := some 57) (v := ?_) (a' := ?_) (bm 12 31) rfl rfl (by kernel_rfl) (fun _ _ _ h => h) hHeld (Or.inl ⟨by rfl, ?_⟩) ?_ ?_
          rotate_left
          · intro w' hw'
            have hbx := SB.boxAt (w.heap.size + 1) 28 hw'
            have s0 := blk_cell hbx 0
            have s1 := blk_cell hbx 1
            obtain ⟨r0, r1, r2⟩ := HAC.out w' hw'.bel
            go_simp
            with_reducible rfl
          rotate_left
          · simp only [Act.put, List.setIfInBounds_toArray, List.set_cons_zero, List.set_cons_succ]
            rfl
          refine rg_take (i := 5) (N := some 58) (v := ?_) (a' := ?_) (bm 12 63) rfl rfl (by kernel_rfl) (fun _ _ _ h => h) hHeld (Or.inl ⟨by rfl, ?_⟩) ?_ ?_
          rotate_left
          · intro w' hw'
            have hbx := SB.boxAt (w.heap.size + 1) 28 hw'
            have s0 := blk_cell hbx 0
            have s1 := blk_cell hbx 1
            obtain ⟨r0, r1, r2⟩ := HAC.out w' hw'.bel
            go_simp
            with_reducible rfl
          rotate_left
          · simp only [Act.put, List.setIfInBounds_toArray, List.set_cons_zero, List.set_cons_succ]
            rfl
          refine rg_ready [6] (by kernel_rfl) (by simp) ?_
          refine rg_one (i := 6) (N := some 59) (bm 12 127) rfl rfl (by kernel_rfl) (fun K hK => ?_) rg_nil
          have hHd : SB w wd _ := hwd.out ▸ hHD
          have hHHd : HoldS wd A0 c0 A1 c1 v cs := hwd.out ▸ (HHP.out.below (below_drew (Below.refl _ _)))
          go_simp
          go_at_call 14
          with_reducible refine (HCT.out _ hHHd (Kd.C_below HC5.out hHd.bel)).mono ?_
          rintro e wx6r17 ⟨B0, d0, B1, d1, rfl, hH1, hb⟩
          have HQ := Aside0.mk (hHd.below hb)
          have HHQ := Aside0.mk hH1
          have HHO := Aside0.mk (hHHd.below hb)
          have hnew := hHeld.below hb
          clear hH1 hb
          go_wp2_with fail
          refine hK.out _ _ hnew ?_
          clear hK K
          refine rg_norm (a' := ?_) ?_ ?_
          rotate_left
          · simp only [Act.put, List.setIfInBounds_toArray, List.set_cons_zero, List.set_cons_succ]
            rfl
          clear hHeld
          have hHeld := hnew
          clear hnew
          refine rg_take (i := 7) (N := some 52) (v := ?_) (a' := ?_) (bm 12 255) rfl rfl (by kernel_rfl) (fun _ _ _ h => h) hHeld (Or.inl ⟨by rfl, ?_⟩) ?_ ?_
          rotate_left
          · intro w' hw'
            have hbx := SB.boxAt (w.heap.size + 1) 28 hw'
            have s0 := blk_cell hbx 0
            have s1 := blk_cell hbx 1
            obtain ⟨r0, r1, r2⟩ := HAC.out w' hw'.bel
            go_simp
            with_reducible rfl
          rotate_left
          · simp only [Act.put, List.setIfInBounds_toArray, List.set_cons_zero, List.set_cons_succ]
            rfl
          refine rg_take (i := 8) (N := some 60) (v := ?_) (a' := ?_) (bm 12 511) rfl rfl (by kernel_rfl) (fun _ _ _ h => h) hHeld (Or.inl ⟨by rfl, ?_⟩) ?_ ?_
          rotate_left
          · intro w' hw'
            have hbx := SB.boxAt (w.heap.size + 1) 28 hw'
            have s0 := blk_cell hbx 0
            have s1 := blk_cell hbx 1
            obtain ⟨r0, r1, r2⟩ := HAC.out w' hw'.bel
            go_simp
            with_reducible rfl
          rotate_left
          · simp only [Act.put, List.setIfInBounds_toArray, List.set_cons_zero, List.set_cons_succ]
            rfl
          refine rg_take (i := 9) (N := some 61) (v := ?_) (a' := ?_) (bm 12 1023) rfl rfl (by kernel_rfl) (fun _ _ _ h => h) hHeld (Or.inl ⟨by rfl, ?_⟩) ?_ ?_
          rotate_left
          · intro w' hw'
            have hbx := SB.boxAt (w.heap.size + 1) 28 hw'
            have s0 := blk_cell hbx 0
            have s1 := blk_cell hbx 1
            obtain ⟨r0, r1, r2⟩ := HAC.out w' hw'.bel
            go_simp
            with_reducible rfl
          rotate_left
          · simp only [Act.put, List.setIfInBounds_toArray, List.set_cons_zero, List.set_cons_succ]
            rfl
          refine rg_ready [10] (by kernel_rfl) (by simp) ?_
          refine rg_one (i := 10) (N := none) (bm 12 2047) rfl rfl (by kernel_rfl) (fun K hK => ?_) rg_nil
          have hs5 := SB.boxAt wr.heap.size 28 HQ.out
          have z0 := blk_cell hs5 0
          have z1 := blk_cell hs5 1
          have y0 := blk_fro hs5 0
          have y1 := blk_fro hs5 1
          have hq2 := (HQ.out.set1 0 (.slice B0 v'.length d0)).set1 1 (.slice B1 cs'.length d1)
          have HQ2 := Aside0.mk hq2
          have HHQ2 := Aside0.mk (HHQ.out.set2 (X' := B0) (n' := v'.length) (c' := d0) (Y' := B1) (m' := cs'.length) (d' := d1) hs5)
          have HHO2 := Aside0.mk (HHO.out.set2 (X' := B0) (n' := v'.length) (c' := d0) (Y' := B1) (m' := cs'.length) (d' := d1) hs5)
          have hnew := (hq2.boxHide 2).pick [0, 1]
          clear hq2
          go_simp
          refine hK.out undef _ hnew ?_
          clear hK K
          refine rg_norm (a' := ?_) ?_ ?_
          rotate_left
          · simp only [Act.put, List.setIfInBounds_toArray, List.set_cons_zero, List.set_cons_succ]
            rfl
          clear hHeld
          have hHeld := hnew
          clear hnew
          refine rg_take (i := 11) (N := some 6) (v := ?_) (a' := ?_) (bm 12 4095) rfl rfl (by kernel_rfl) (fun _ _ _ h => h) hHeld (Or.inl ⟨by rfl, ?_⟩) ?_ ?_
          rotate_left
          · intro w' hw'
            have hbx := SB.boxAt (w.heap.size + 1) 28 hw'
            have s0 := blk_cell hbx 0
            have s1 := blk_cell hbx 1
            obtain ⟨r0, r1, r2⟩ := HAC.out w' hw'.bel
            go_simp
            with_reducible rfl
          rotate_left
          · simp only [Act.put, List.setIfInBounds_toArray, List.set_cons_zero, List.set_cons_succ]
            rfl
          refine rg_done (by kernel_rfl) ?_
          have x2 := SB.boxAt wr.heap.size 28 HQ2.out
          have u0 := blk_cell x2 0
          have u1 := blk_cell x2 1
          have x3 := SB.boxAt (w.heap.size + 1) 28 HQ2.out
          have m0 := blk_cell x3 0
          have m1 := blk_cell x3 1
          have n0 := blk_fro x3 0
          have n1 := blk_fro x3 1
          go_wp2
          go_roundw
          case rel => exact ⟨i + 1, v, cs, A0, c0, A1, c1, by go_num, by omega, ⟨HGS.out.trans HR.out⟩, ⟨HQ2.out.pick [1, 2]⟩, ⟨HHO2.out⟩⟩
          case measure => simp [intOf]; omega
      have e4 : (x.f0 == 4) = false := beq_eq_false_iff_ne.mpr ck
      by_cases ck : x.f0 = 5
      · skip
        have hgt : gTry v cs x = sOpen v cs x.f1 x.f2 := by unfold gTry; simp [ck]
        rw [ck] at q0
        obtain ⟨v', cs', er, hr⟩ : ∃ v' cs' er, sOpen v cs x.f1 x.f2 = (v', cs', er) := ⟨_, _, _, rfl⟩
        have HCT := Aside0.mk (show ∀ W, HoldS W A0 c0 A1 c1 v cs → Kd.C (Kd.int .u8) W A5 x.f2.length x.f2 → Calls Try.prog 17 #[.agg #[.slice A0 v.length c0, .slice A1 cs.length c1], .int .i64 x.f1, .slice A5 x.f2.length c5] W fun e w' => ∃ B0 d0 B1 d1, e = .returned (.tuple #[.agg #[.slice B0 v'.length d0, .slice B1 cs'.length d1], .int .i64 er]) ∧ HoldS w' B0 d0 B1 d1 v' cs' ∧ Below W.heap.size W w' from fun W hH hC2 => by have := stkOpen hH x.f1 hC2 l5 hm HX2.out; rw [hr] at this; exact this)
        have HR := Aside0.mk (show gStep (v, cs) x = if er = 0 then (v', cs') else (v, cs) from by unfold gStep; rw [hgt, hr])
        clear hgt hr ck
        by_cases hz : er = 0
        · have hzb : (er == 0) = true := beq_iff_eq.mpr hz
          rw [if_pos hz] at HR
          clear hz
          go_wp2
          have hHD := HP.out.drew
          refine rg_startL (n := 17) (S := fun w' => SB w w' [BoxO wr.heap.size 28 2 none, Box (w.heap.size + 1) #[.slice A0 v.length c0, .slice A1 cs.length c1] 28]) (bm 17 0) (by kernel_rfl) rfl (by kernel_rfl) (((hHD.boxHide 2).pick [0, 1])) (fun wd hwd hHeld => ?_)
          refine rg_take (i := 0) (N := some 65) (v := ?_) (a' := ?_) (bm 17 1) rfl rfl (by kernel_rfl) (fun _ _ _ h => h) hHeld (Or.inl ⟨by rfl, ?_⟩) ?_ ?_
          rotate_left
          · intro w' hw'
            have hbx := SB.boxAt (w.heap.size + 1) 28 hw'
            have s0 := blk_cell hbx 0
            have s1 := blk_cell hbx 1
            obtain ⟨r0, r1, r2⟩ := HAC.out w' hw'.bel
            go_simp
            with_reducible rfl
          rotate_left
          · simp only [Act.put, List.setIfInBounds_toArray, List.set_cons_zero, List.set_cons_succ]
            rfl
          refine rg_take (i := 1) (N := some 66) (v := ?_) (a' := ?_) (bm 17 3) rfl rfl (by kernel_rfl) (fun _ _ _ h => h) hHeld (Or.inl ⟨by rfl, ?_⟩) ?_ ?_
          rotate_left
          · intro w' hw'
            have hbx := SB.boxAt (w.heap.size + 1) 28 hw'
            have s0 := blk_cell hbx 0
            have s1 := blk_cell hbx 1
            obtain ⟨r0, r1, r2⟩ := HAC.out w' hw'.bel
            go_simp
            with_reducible rfl
          rotate_left
          · simp only [Act.put, List.setIfInBounds_toArray, List.set_cons_zero, List.set_cons_succ]
            rfl
          refine rg_take (i := 2) (N := some 67) (v := ?_) (a' := ?_) (bm 17 7) rfl rfl (by kernel_rfl) (fun _ _ _ h => h) hHeld (Or.inl ⟨by rfl, ?_⟩) ?_ ?_
          rotate_left
          · intro w' hw'
            have hbx := SB.boxAt (w.heap.size + 1) 28 hw'
            have s0 := blk_cell hbx 0
            have s1 := blk_cell hbx 1
            obtain ⟨r0, r1, r2⟩ := HAC.out w' hw'.bel
            go_simp
            with_reducible rfl
          rotate_left
          · simp only [Act.put, List.setIfInBounds_toArray, List.set_cons_zero, List.set_cons_succ]
            rfl
          refine rg_take (i := 3) (N := some 68) (v := ?_) (a' := ?_) (bm 17 15) rfl rfl (by kernel_rfl) (fun _ _ _ h => h) hHeld (Or.inl ⟨by rfl, ?_⟩) ?_ ?_
          rotate_left
          · intro w' hw'
            have hbx := SB.boxAt (w.heap.size + 1) 28 hw'
            have s0 := blk_cell hbx 0
            have s1 := blk_cell hbx 1
            obtain ⟨r0, r1, r2⟩ := HAC.out w' hw'.bel
            go_simp
            with_reducible rfl
          rotate_left
          · simp only [Act.put, List.setIfInBounds_toArray, List.set_cons_zero, List.set_cons_succ]
            rfl
          refine rg_take (i := 4) (N := some 69) (v := ?_) (a' := ?_) (bm 17 31) rfl rfl (by kernel_rfl) (fun _ _ _ h => h) hHeld (Or.inl ⟨by rfl, ?_⟩) ?_ ?_
          rotate_left
          · intro w' hw'
            have hbx := SB.boxAt (w.heap.size + 1) 28 hw'
            have s0 := blk_cell hbx 0
            have s1 := blk_cell hbx 1
            obtain ⟨r0, r1, r2⟩ := HAC.out w' hw'.bel
            go_simp
            with_reducible rfl
          rotate_left
          · simp only [Act.put, List.setIfInBounds_toArray, List.set_cons_zero, List.set_cons_succ]
            rfl
          refine rg_take (i := 5) (N := some 70) (v := ?_) (a' := ?_) (bm 17 63) rfl rfl (by kernel_rfl) (fun _ _ _ h => h) hHeld (Or.inl ⟨by rfl, ?_⟩) ?_ ?_
          rotate_left
          · intro w' hw'
            have hbx := SB.boxAt (w.heap.size + 1) 28 hw'
            have s0 := blk_cell hbx 0
            have s1 := blk_cell hbx 1
            obtain ⟨r0, r1, r2⟩ := HAC.out w' hw'.bel
            go_simp
            with_reducible rfl
          rotate_left
          · simp only [Act.put, List.setIfInBounds_toArray, List.set_cons_zero, List.set_cons_succ]
            rfl
          refine rg_take (i := 6) (N := some 71) (v := ?_) (a' := ?_) (bm 17 127) rfl rfl (by kernel_rfl) (fun _ _ _ h => h) hHeld (Or.inl ⟨by rfl, ?_⟩) ?_ ?_
          rotate_left
          · intro w' hw'
            have hbx := SB.boxAt (w.heap.size + 1) 28 hw'
            have s0 := blk_cell hbx 0
            have s1 := blk_cell hbx 1
            obtain ⟨r0, r1, r2⟩ := HAC.out w' hw'.bel
            go_simp
            with_reducible rfl
          rotate_left
          · simp only [Act.put, List.setIfInBounds_toArray, List.set_cons_zero, List.set_cons_succ]
            rfl
          refine rg_take (i := 7) (N := some 72) (v := ?_) (a' := ?_) (bm 17 255) rfl rfl (by kernel_rfl) (fun _ _ _ h => h) hHeld (Or.inl ⟨by rfl, ?_⟩) ?_ ?_
          rotate_left
          · intro w' hw'
            have hbx := SB.boxAt (w.heap.size + 1) 28 hw'
            have s0 := blk_cell hbx 0
            have s1 := blk_cell hbx 1
            obtain ⟨r0, r1, r2⟩ := HAC.out w' hw'.bel
            go_simp
            with_reducible rfl
          rotate_left
          · simp only [Act.put, List.setIfInBounds_toArray, List.set_cons_zero, List.set_cons_succ]
            rfl
          refine rg_take (i := 8) (N := some 73) (v := ?_) (a' := ?_) (bm 17 511) rfl rfl (by kernel_rfl) (fun _ _ _ h => h) hHeld (Or.inl ⟨by rfl, ?_⟩) ?_ ?_
          rotate_left
          · intro w' hw'
            have hbx := SB.boxAt (w.heap.size + 1) 28 hw'
            have s0 := blk_cell hbx 0
            have s1 := blk_cell hbx 1
            obtain ⟨r0, r1, r2⟩ := HAC.out w' hw'.bel
            go_simp
            with_reducible rfl
          rotate_left
          · simp only [Act.put, List.setIfInBounds_toArray, List.set_cons_zero, List.set_cons_succ]
            rfl
          refine rg_take (i := 9) (N := some 74) (v := ?_) (a' := ?_) (bm 17 1023) rfl rfl (by kernel_rfl) (fun _ _ _ h => h) hHeld (Or.inl ⟨by rfl, ?_⟩) ?_ ?_
          rotate_left
          · intro w' hw'
            have hbx := SB.boxAt (w.heap.size + 1) 28 hw'
            have s0 := blk_cell hbx 0
            have s1 := blk_cell hbx 1
            obtain ⟨r0, r1, r2⟩ := HAC.out w' hw'.bel
            go_simp
            with_reducible rfl
          rotate_left
          · simp only [Act.put, List.setIfInBounds_toArray, List.set_cons_zero, List.set_cons_succ]
            rfl
          refine rg_take (i := 10) (N := some 75) (v := ?_) (a' := ?_) (bm 17 2047) rfl rfl (by kernel_rfl) (fun _ _ _ h => h) hHeld (Or.inl ⟨by rfl, ?_⟩) ?_ ?_
          rotate_left
          · intro w' hw'
            have hbx := SB.boxAt (w.heap.size + 1) 28 hw'
            have s0 := blk_cell hbx 0
            have s1 := blk_cell hbx 1
            obtain ⟨r0, r1, r2⟩ := HAC.out w' hw'.bel
            go_simp
            with_reducible rfl
          rotate_left
          · simp only [Act.put, List.setIfInBounds_toArray, List.set_cons_zero, List.set_cons_succ]
            rfl
          refine rg_ready [11] (by kernel_rfl) (by simp) ?_
          refine rg_one (i := 11) (N := some 76) (bm 17 4095) rfl rfl (by kernel_rfl) (fun K hK => ?_) rg_nil
          have hHd : SB w wd _ := hwd.out ▸ hHD
          have hHHd : HoldS wd A0 c0 A1 c1 v cs := hwd.out ▸ (HHP.out.below (below_drew (Below.refl _ _)))
          go_simp
          go_at_call 17
          with_reducible refine (HCT.out _ hHHd (Kd.C_below HC5.out hHd.bel)).mono ?_
          rintro e wx11r19 ⟨B0, d0, B1, d1, rfl, hH1, hb⟩
          have HQ := Aside0.mk (hHd.below hb)
          have HHQ := Aside0.mk hH1
          have HHO := Aside0.mk (hHHd.below hb)
          have hnew := hHeld.below hb
          clear hH1 hb
          go_wp2_with fail
          refine hK.out _ _ hnew ?_
          clear hK K
          refine rg_norm (a' := ?_) ?_ ?_
          rotate_left
          · simp only [Act.put, List.setIfInBounds_toArray, List.set_cons_zero, List.set_cons_succ]
            rfl
          clear hHeld
          have hHeld := hnew
          clear hnew
          refine rg_take (i := 12) (N := some 64) (v := ?_) (a' := ?_) (bm 17 8191) rfl rfl (by kernel_rfl) (fun _ _ _ h => h) hHeld (Or.inl ⟨by rfl, ?_⟩) ?_ ?_
          rotate_left
          · intro w' hw'
            have hbx := SB.boxAt (w.heap.size + 1) 28 hw'
            have s0 := blk_cell hbx 0
            have s1 := blk_cell hbx 1
            obtain ⟨r0, r1, r2⟩ := HAC.out w' hw'.bel
            go_simp
            with_reducible rfl
          rotate_left
          · simp only [Act.put, List.setIfInBounds_toArray, List.set_cons_zero, List.set_cons_succ]
            rfl
          refine rg_take (i := 13) (N := some 77) (v := ?_) (a' := ?_) (bm 17 16383) rfl rfl (by kernel_rfl) (fun _ _ _ h => h) hHeld (Or.inl ⟨by rfl, ?_⟩) ?_ ?_
          rotate_left
          · intro w' hw'
            have hbx := SB.boxAt (w.heap.size + 1) 28 hw'
            have s0 := blk_cell hbx 0
            have s1 := blk_cell hbx 1
            obtain ⟨r0, r1, r2⟩ := HAC.out w' hw'.bel
            go_simp
            with_reducible rfl
          rotate_left
          · simp only [Act.put, List.setIfInBounds_toArray, List.set_cons_zero, List.set_cons_succ]
            rfl
          refine rg_take (i := 14) (N := some 78) (v := ?_) (a' := ?_) (bm 17 32767) rfl rfl (by kernel_rfl) (fun _ _ _ h => h) hHeld (Or.inl ⟨by rfl, ?_⟩) ?_ ?_
          rotate_left
          · intro w' hw'
            have hbx := SB.boxAt (w.heap.size + 1) 28 hw'
            have s0 := blk_cell hbx 0
            have s1 := blk_cell hbx 1
            obtain ⟨r0, r1, r2⟩ := HAC.out w' hw'.bel
            go_simp
            with_reducible rfl
          rotate_left
          · simp only [Act.put, List.setIfInBounds_toArray, List.set_cons_zero, List.set_cons_succ]
            rfl
          refine rg_ready [15] (by kernel_rfl) (by simp) ?_
          refine rg_one (i := 15) (N := none) (bm 17 65535) rfl rfl (by kernel_rfl) (fun K hK => ?_) rg_nil
          have hs5 := SB.boxAt wr.heap.size 28 HQ.out
          have z0 := blk_cell hs5 0
          have z1 := blk_cell hs5 1
          have y0 := blk_fro hs5 0
          have y1 := blk_fro hs5 1
          have hq2 := (HQ.out.set1 0 (.slice B0 v'.length d0)).set1 1 (.slice B1 cs'.length d1)
          have HQ2 := Aside0.mk hq2
          have HHQ2 := Aside0.mk (HHQ.out.set2 (X' := B0) (n' := v'.length) (c' := d0) (Y' := B1) (m' := cs'.length) (d' := d1) hs5)
          have HHO2 := Aside0.mk (HHO.out.set2 (X' := B0) (n' := v'.length) (c' := d0) (Y' := B1) (m' := cs'.length) (d' := d1) hs5)
          have hnew := (hq2.boxHide 2).pick [0, 1]
          clear hq2
          go_simp
          refine hK.out undef _ hnew ?_
          clear hK K
          refine rg_norm (a' := ?_) ?_ ?_
          rotate_left
          · simp only [Act.put, List.setIfInBounds_toArray, List.set_cons_zero, List.set_cons_succ]
            rfl
          clear hHeld
          have hHeld := hnew
          clear hnew
          refine rg_take (i := 16) (N := some 6) (v := ?_) (a' := ?_) (bm 17 131071) rfl rfl (by kernel_rfl) (fun _ _ _ h => h) hHeld (Or.inl ⟨by rfl, ?_⟩) ?_ ?_
          rotate_left
          · intro w' hw'
            have hbx := SB.boxAt (w.heap.size + 1) 28 hw'
            have s0 := blk_cell hbx 0
            have s1 := blk_cell hbx 1
            obtain ⟨r0, r1, r2⟩ := HAC.out w' hw'.bel
            go_simp
            with_reducible rfl
          rotate_left
          · simp only [Act.put, List.setIfInBounds_toArray, List.set_cons_zero, List.set_cons_succ]
            rfl
          refine rg_done (by kernel_rfl) ?_
          have x2 := SB.boxAt wr.heap.size 28 HQ2.out
          have u0 := blk_cell x2 0
          have u1 := blk_cell x2 1
          have x3 := SB.boxAt (w.heap.size + 1) 28 HQ2.out
          have m0 := blk_cell x3 0
          have m1 := blk_cell x3 1
          have n0 := blk_fro x3 0
          have n1 := blk_fro x3 1
          go_wp2
          go_roundw
          case rel =>
            have hSB := (HQ2.out.swap.set1 0 (.slice B0 v'.length d0)).set1 1 (.slice B1 cs'.length d1)
            have hHS := HHQ2.out.set2 (X' := B0) (n' := v'.length) (c' := d0) (Y' := B1) (m' := cs'.length) (d' := d1) x3
            exact ⟨i + 1, v', cs', B0, d0, B1, d1, by go_num, by omega, ⟨HGS.out.trans HR.out⟩, ⟨hSB.pick [0, 2]⟩, ⟨hHS⟩⟩
          case measure => simp [intOf]; omega
        · have hzb : (er == 0) = false := beq_eq_false_iff_ne.mpr hz
          rw [if_neg hz] at HR
          clear hz
          go_wp2
          have hHD := HP.out.drew
          refine rg_startL (n := 17) (S := fun w' => SB w w' [BoxO wr.heap.size 28 2 none, Box (w.heap.size + 1) #[.slice A0 v.length c0, .slice A1 cs.length c1] 28]) (bm 17 0) (by kernel_rfl) rfl (by kernel_rfl) (((hHD.boxHide 2).pick [0, 1])) (fun wd hwd hHeld => ?_)
          refine rg_take (i := 0) (N := some 65) (v := ?_) (a' := ?_) (bm 17 1) rfl rfl (by kernel_rfl) (fun _ _ _ h => h) hHeld (Or.inl ⟨by rfl, ?_⟩) ?_ ?_
          rotate_left
          · intro w' hw'
            have hbx := SB.boxAt (w.heap.size + 1) 28 hw'
            have s0 := blk_cell hbx 0
            have s1 := blk_cell hbx 1
            obtain ⟨r0, r1, r2⟩ := HAC.out w' hw'.bel
            go_simp
            with_reducible rfl
          rotate_left
          · simp only [Act.put, List.setIfInBounds_toArray, List.set_cons_zero, List.set_cons_succ]
            rfl
          refine rg_take (i := 1) (N := some 66) (v := ?_) (a' := ?_) (bm 17 3) rfl rfl (by kernel_rfl) (fun _ _ _ h => h) hHeld (Or.inl ⟨by rfl, ?_⟩) ?_ ?_
          rotate_left
          · intro w' hw'
            have hbx := SB.boxAt (w.heap.size + 1) 28 hw'
            have s0 := blk_cell hbx 0
            have s1 := blk_cell hbx 1
            obtain ⟨r0, r1, r2⟩ := HAC.out w' hw'.bel
            go_simp
            with_reducible rfl
          rotate_left
          · simp only [Act.put, List.setIfInBounds_toArray, List.set_cons_zero, List.set_cons_succ]
            rfl
          refine rg_take (i := 2) (N := some 67) (v := ?_) (a' := ?_) (bm 17 7) rfl rfl (by kernel_rfl) (fun _ _ _ h => h) hHeld (Or.inl ⟨by rfl, ?_⟩) ?_ ?_
          rotate_left
          · intro w' hw'
            have hbx := SB.boxAt (w.heap.size + 1) 28 hw'
            have s0 := blk_cell hbx 0
            have s1 := blk_cell hbx 1
            obtain ⟨r0, r1, r2⟩ := HAC.out w' hw'.bel
            go_simp
            with_reducible rfl
          rotate_left
          · simp only [Act.put, List.setIfInBounds_toArray, List.set_cons_zero, List.set_cons_succ]
            rfl
          refine rg_take (i := 3) (N := some 68) (v := ?_) (a' := ?_) (bm 17 15) rfl rfl (by kernel_rfl) (fun _ _ _ h => h) hHeld (Or.inl ⟨by rfl, ?_⟩) ?_ ?_
          rotate_left
          · intro w' hw'
            have hbx := SB.boxAt (w.heap.size + 1) 28 hw'
            have s0 := blk_cell hbx 0
            have s1 := blk_cell hbx 1
            obtain ⟨r0, r1, r2⟩ := HAC.out w' hw'.bel
            go_simp
            with_reducible rfl
          rotate_left
          · simp only [Act.put, List.setIfInBounds_toArray, List.set_cons_zero, List.set_cons_succ]
            rfl
          refine rg_take (i := 4) (N := some 69) (v := ?_) (a' := ?_) (bm 17 31) rfl rfl (by kernel_rfl) (fun _ _ _ h => h) hHeld (Or.inl ⟨by rfl, ?_⟩) ?_ ?_
          rotate_left
          · intro w' hw'
            have hbx := SB.boxAt (w.heap.size + 1) 28 hw'
            have s0 := blk_cell hbx 0
            have s1 := blk_cell hbx 1
            obtain ⟨r0, r1, r2⟩ := HAC.out w' hw'.bel
            go_simp
            with_reducible rfl
          rotate_left
          · simp only [Act.put, List.setIfInBounds_toArray, List.set_cons_zero, List.set_cons_succ]
            rfl
          refine rg_take (i := 5) (N := some 70) (v := ?_) (a' := ?_) (bm 17 63) rfl rfl (by kernel_rfl) (fun _ _ _ h => h) hHeld (Or.inl ⟨by rfl, ?_⟩) ?_ ?_
          rotate_left
          · intro w' hw'
            have hbx := SB.boxAt (w.heap.size + 1) 28 hw'
            have s0 := blk_cell hbx 0
            have s1 := blk_cell hbx 1
            obtain ⟨r0, r1, r2⟩ := HAC.out w' hw'.bel
            go_simp
            with_reducible rfl
          rotate_left
          · simp only [Act.put, List.setIfInBounds_toArray, List.set_cons_zero, List.set_cons_succ]
            rfl
          refine rg_take (i := 6) (N := some 71) (v := ?_) (a' := ?_) (bm 17 127) rfl rfl (by kernel_rfl) (fun _ _ _ h => h) hHeld (Or.inl ⟨by rfl, ?_⟩) ?_ ?_
          rotate_left
          · intro w' hw'
            have hbx := SB.boxAt (w.heap.size + 1) 28 hw'
            have s0 := blk_cell hbx 0
            have s1 := blk_cell hbx 1
            obtain ⟨r0, r1, r2⟩ := HAC.out w' hw'.bel
            go_simp
            with_reducible rfl
          rotate_left
          · simp only [Act.put, List.setIfInBounds_toArray, List.set_cons_zero, List.set_cons_succ]
            rfl
          refine rg_take (i := 7) (N := some 72) (v := ?_) (a' := ?_) (bm 17 255) rfl rfl (by kernel_rfl) (fun _ _ _ h => h) hHeld (Or.inl ⟨by rfl, ?_⟩) ?_ ?_
          rotate_left
          · intro w' hw'
            have hbx := SB.boxAt (w.heap.size + 1) 28 hw'
            have s0 := blk_cell hbx 0
            have s1 := blk_cell hbx 1
            obtain ⟨r0, r1, r2⟩ := HAC.out w' hw'.bel
            go_simp
            with_reducible rfl
          rotate_left
          · simp only [Act.put, List.setIfInBounds_toArray, List.set_cons_zero, List.set_cons_succ]
            rfl
          refine rg_take (i := 8) (N := some 73) (v := ?_) (a' := ?_) (bm 17 511) rfl rfl (by kernel_rfl) (fun _ _ _ h => h) hHeld (Or.inl ⟨by rfl, ?_⟩) ?_ ?_
          rotate_left
          · intro w' hw'
            have hbx := SB.boxAt (w.heap.size + 1) 28 hw'
            have s0 := blk_cell hbx 0
            have s1 := blk_cell hbx 1
            obtain ⟨r0, r1, r2⟩ := HAC.out w' hw'.bel
            go_simp
            with_reducible rfl
          rotate_left
          · simp only [Act.put, List.setIfInBounds_toArray, List.set_cons_zero, List.set_cons_succ]
            rfl
          refine rg_take (i := 9) (N := some 74) (v := ?_) (a' := ?_) (bm 17 1023) rfl rfl (by kernel_rfl) (fun _ _ _ h => h) hHeld (Or.inl ⟨by rfl, ?_⟩) ?_ ?_
          rotate_left
          · intro w' hw'
            have hbx := SB.boxAt (w.heap.size + 1) 28 hw'
            have s0 := blk_cell hbx 0
            have s1 := blk_cell hbx 1
            obtain ⟨r0, r1, r2⟩ := HAC.out w' hw'.bel
            go_simp
            with_reducible rfl
          rotate_left
          · simp only [Act.put, List.setIfInBounds_toArray, List.set_cons_zero, List.set_cons_succ]
            rfl
          refine rg_take (i := 10) (N := some 75) (v := ?_) (a' := ?_) (bm 17 2047) rfl rfl (by kernel_rfl) (fun _ _ _ h => h) hHeld (Or.inl ⟨by rfl, ?_⟩) ?_ ?_
          rotate_left
          · intro w' hw'
            have hbx := SB.boxAt (w.heap.size + 1) 28 hw'
            have s0 := blk_cell hbx 0
            have s1 := blk_cell hbx 1
            obtain ⟨r0, r1, r2⟩ := HAC.out w' hw'.bel
            go_simp
            with_reducible rfl
          rotate_left
          · simp only [Act.put, List.setIfInBounds_toArray, List.set_cons_zero, List.set_cons_succ]
            rfl
          refine rg_ready [11] (by kernel_rfl) (by simp) ?_
          refine rg_one (i := 11) (N := some 76) (bm 17 4095) rfl rfl (by kernel_rfl) (fun K hK => ?_) rg_nil
          have hHd : SB w wd _ := hwd.out ▸ hHD
          have hHHd : HoldS wd A0 c0 A1 c1 v cs := hwd.out ▸ (HHP.out.below (below_drew (Below.refl _ _)))
          go_simp
          go_at_call 17
          with_reducible refine (HCT.out _ hHHd (Kd.C_below HC5.out hHd.bel)).mono ?_
          rintro e wx11r19 ⟨B0, d0, B1, d1, rfl, hH1, hb⟩
          have HQ := Aside0.mk (hHd.below hb)
          have HHQ := Aside0.mk hH1
          have HHO := Aside0.mk (hHHd.below hb)
          have hnew := hHeld.below hb
          clear hH1 hb
          go_wp2_with fail
          refine hK.out _ _ hnew ?_
          clear hK K
          refine rg_norm (a' := ?_) ?_ ?_
          rotate_left
          · simp only [Act.put, List.setIfInBounds_toArray, List.set_cons_zero, List.set_cons_succ]
            rfl
          clear hHeld
          have hHeld := hnew
          clear hnew
          refine rg_take (i := 12) (N := some 64) (v := ?_) (a' := ?_) (bm 17 8191) rfl rfl (by kernel_rfl) (fun _ _ _ h => h) hHeld (Or.inl ⟨by rfl, ?_⟩) ?_ ?_
          rotate_left
          · intro w' hw'
            have hbx := SB.boxAt (w.heap.size + 1) 28 hw'
            have s0 := blk_cell hbx 0
            have s1 := blk_cell hbx 1
            obtain ⟨r0, r1, r2⟩ := HAC.out w' hw'.bel
            go_simp
            with_reducible rfl
          rotate_left
          · simp only [Act.put, List.setIfInBounds_toArray, List.set_cons_zero, List.set_cons_succ]
            rfl
          refine rg_take (i := 13) (N := some 77) (v := ?_) (a' := ?_) (bm 17 16383) rfl rfl (by kernel_rfl) (fun _ _ _ h => h) hHeld (Or.inl ⟨by rfl, ?_⟩) ?_ ?_
          rotate_left
          · intro w' hw'
            have hbx := SB.boxAt (w.heap.size + 1) 28 hw'
            have s0 := blk_cell hbx 0
            have s1 := blk_cell hbx 1
            obtain ⟨r0, r1, r2⟩ := HAC.out w' hw'.bel
            go_simp
            with_reducible rfl
          rotate_left
          · simp only [Act.put, List.setIfInBounds_toArray, List.set_cons_zero, List.set_cons_succ]
            rfl
          refine rg_take (i := 14) (N := some 78) (v := ?_) (a' := ?_) (bm 17 32767) rfl rfl (by kernel_rfl) (fun _ _ _ h => h) hHeld (Or.inl ⟨by rfl, ?_⟩) ?_ ?_
          rotate_left
          · intro w' hw'
            have hbx := SB.boxAt (w.heap.size + 1) 28 hw'
            have s0 := blk_cell hbx 0
            have s1 := blk_cell hbx 1
            obtain ⟨r0, r1, r2⟩ := HAC.out w' hw'.bel
            go_simp
            with_reducible rfl
          rotate_left
          · simp only [Act.put, List.setIfInBounds_toArray, List.set_cons_zero, List.set_cons_succ]
            rfl
          refine rg_ready [15] (by kernel_rfl) (by simp) ?_
          refine rg_one (i := 15) (N := none) (bm 17 65535) rfl rfl (by kernel_rfl) (fun K hK => ?_) rg_nil
          have hs5 := SB.boxAt wr.heap.size 28 HQ.out
          have z0 := blk_cell hs5 0
          have z1 := blk_cell hs5 1
          have y0 := blk_fro hs5 0
          have y1 := blk_fro hs5 1
          have hq2 := (HQ.out.set1 0 (.slice B0 v'.length d0)).set1 1 (.slice B1 cs'.length d1)
          have HQ2 := Aside0.mk hq2
          have HHQ2 := Aside0.mk (HHQ.out.set2 (X' := B0) (n' := v'.length) (c' := d0) (Y' := B1) (m' := cs'.length) (d' := d1) hs5)
          have HHO2 := Aside0.mk (HHO.out.set2 (X' := B0) (n' := v'.length) (c' := d0) (Y' := B1) (m' := cs'.length) (d' := d1) hs5)
          have hnew := (hq2.boxHide 2).pick [0, 1]
          clear hq2
          go_simp
          refine hK.out undef _ hnew ?_
          clear hK K
          refine rg_norm (a' := ?_) ?_ ?_
          rotate_left
          · simp only [Act.put, List.setIfInBounds_toArray, List.set_cons_zero, List.set_cons_succ]
            rfl
          clear hHeld
          have hHeld := hnew
          clear hnew
          refine rg_take (i := 16) (N := some 6) (v := ?_) (a' := ?_) (bm 17 131071) rfl rfl (by kernel_rfl) (fun _ _ _ h => h) hHeld (Or.inl ⟨by rfl, ?_⟩) ?_ ?_
          rotate_left
          · intro w' hw'
            have hbx := SB.boxAt (w.heap.size + 1) 28 hw'
            have s0 := blk_cell hbx 0
            have s1 := blk_cell hbx 1
            obtain ⟨r0, r1, r2⟩ := HAC.out w' hw'.bel
            go_simp
            with_reducible rfl
          rotate_left
          · simp only [Act.put, List.setIfInBounds_toArray, List.set_cons_zero, List.set_cons_succ]
            rfl
          refine rg_done (by kernel_rfl) ?_
          have x2 := SB.boxAt wr.heap.size 28 HQ2.out
          have u0 := blk_cell x2 0
          have u1 := blk_cell x2 1
          have x3 := SB.boxAt (w.heap.size + 1) 28 HQ2.out
          have m0 := blk_cell x3 0
          have m1 := blk_cell x3 1
          have n0 := blk_fro x3 0
          have n1 := blk_fro x3 1
          go_wp2
          go_roundw
          case rel => exact ⟨i + 1, v, cs, A0, c0, A1, c1, by go_num, by omega, ⟨HGS.out.trans HR.out⟩, ⟨HQ2.out.pick [1, 2]⟩, ⟨HHO2.out⟩⟩
          case measure => simp [intOf]; omega
      have e5 : (x.f0 == 5) = false := beq_eq_false_iff_ne.mpr ck
      by_cases ck : x.f0 = 6
      · skip
        have hgt : gTry v cs x = ((sClose v cs ).1, (sClose v cs ).2.1, (sClose v cs ).2.2.2) := by unfold gTry; simp [ck]
        rw [ck] at q0
        obtain ⟨v', cs', kx, er, hr⟩ : ∃ v' cs' kx er, sClose v cs = (v', cs', kx, er) := ⟨_, _, _, _, rfl⟩
        have HCT := Aside0.mk (show ∀ W, HoldS W A0 c0 A1 c1 v cs → Calls Try.prog 18 #[.agg #[.slice A0 v.length c0, .slice A1 cs.length c1]] W fun e w' => ∃ B0 d0 B1 d1 Be ce, e = .returned (.tuple #[.agg #[.slice B0 v'.length d0, .slice B1 cs'.length d1], .agg #[.int .i64 kx.f0, .slice Be kx.f1.length ce, .int .i64 kx.f2, .bool kx.f3], .int .i64 er]) ∧ HoldS w' B0 d0 B1 d1 v' cs' ∧ Below W.heap.size W w' from fun W hH => by
          refine (stkClose hH hm).mono ?_
          rw [hr]
          rintro e w' ⟨B0, d0, B1, d1, Be, ce, h1, h2, _, _, h3⟩
          exact ⟨B0, d0, B1, d1, Be, ce, h1, h2, h3⟩)
        have HR := Aside0.mk (show gStep (v, cs) x = if er = 0 then (v', cs') else (v, cs) from by unfold gStep; rw [hgt, hr])
        clear hgt hr ck
        by_cases hz : er = 0
        · have hzb : (er == 0) = true := beq_iff_eq.mpr hz
          rw [if_pos hz] at HR
          clear hz
          go_wp2_with (go_at_call 18; refine (HCT.out _ HHP.out).mono ?_; rintro e w1 ⟨B0, d0, B1, d1, Be, ce, rfl, hH1, hb⟩; have HQ := Aside0.mk (HP.out.below hb); have HHQ := Aside0.mk hH1; have HHO := Aside0.mk (HHP.out.below hb); clear hH1; have x2 := SB.boxAt wr.heap.size 28 HQ.out; have z0 := blk_cell x2 0; have z1 := blk_cell x2 1; have y0 := blk_fro x2 0; have y1 := blk_fro x2 1; clear x2; have x3 := SB.boxAt (w.heap.size + 1) 28 HQ.out; have m0 := blk_cell x3 0; have m1 := blk_cell x3 1; have n0 := blk_fro x3 0; have n1 := blk_fro x3 1; clear x3; have hltq : w.heap.size + 1 < w1.heap.size := (by have := hb.size; simp at this; omega); have hlt5 : wr.heap.size < w1.heap.size := (by have := hb.size; simp at this; omega); have hlt5b : wr.heap.size < w1.heap.size + 1 := (by omega); have hltqb : w.heap.size + 1 < w1.heap.size + 1 := (by omega); clear hb)
          have hs5 := SB.boxAt wr.heap.size 28 HQ.out
          have HQ2 := Aside0.mk ((HQ.out.set1 0 (.slice B0 v'.length d0)).set1 1 (.slice B1 cs'.length d1))
          have HHQ2 := Aside0.mk (HHQ.out.set2 (X' := B0) (n' := v'.length) (c' := d0) (Y' := B1) (m' := cs'.length) (d' := d1) hs5)
          have HHO2 := Aside0.mk (HHO.out.set2 (X' := B0) (n' := v'.length) (c' := d0) (Y' := B1) (m' := cs'.length) (d' := d1) hs5)
          go_roundw
          case rel =>
            have hs3 := SB.boxAt (w.heap.size + 1) 28 HQ2.out
            have hSB := (HQ2.out.swap.set1 0 (.slice B0 v'.length d0)).set1 1 (.slice B1 cs'.length d1)
            have hHS := HHQ2.out.set2 (X' := B0) (n' := v'.length) (c' := d0) (Y' := B1) (m' := cs'.length) (d' := d1) hs3
            exact ⟨i + 1, v', cs', B0, d0, B1, d1, by go_num, by omega, ⟨HGS.out.trans HR.out⟩, ⟨(((hSB.pick [0, 2]).alloc (.cells #[.slice B0 v'.length d0, .slice B1 cs'.length d1] 28)).alloc (.cells #[.int .i64 kx.f0, .slice Be kx.f1.length ce, .int .i64 kx.f2, .bool kx.f3] 31))⟩, ⟨((hHS.below (below_alloc (Below.refl _ _) _)).below (below_alloc (Below.refl _ _) _))⟩⟩
          case measure => simp [intOf]; omega
        · have hzb : (er == 0) = false := beq_eq_false_iff_ne.mpr hz
          rw [if_neg hz] at HR
          clear hz
          go_wp2_with (go_at_call 18; refine (HCT.out _ HHP.out).mono ?_; rintro e w1 ⟨B0, d0, B1, d1, Be, ce, rfl, hH1, hb⟩; have HQ := Aside0.mk (HP.out.below hb); have HHQ := Aside0.mk hH1; have HHO := Aside0.mk (HHP.out.below hb); clear hH1; have x2 := SB.boxAt wr.heap.size 28 HQ.out; have z0 := blk_cell x2 0; have z1 := blk_cell x2 1; have y0 := blk_fro x2 0; have y1 := blk_fro x2 1; clear x2; have x3 := SB.boxAt (w.heap.size + 1) 28 HQ.out; have m0 := blk_cell x3 0; have m1 := blk_cell x3 1; have n0 := blk_fro x3 0; have n1 := blk_fro x3 1; clear x3; have hltq : w.heap.size + 1 < w1.heap.size := (by have := hb.size; simp at this; omega); have hlt5 : wr.heap.size < w1.heap.size := (by have := hb.size; simp at this; omega); have hlt5b : wr.heap.size < w1.heap.size + 1 := (by omega); have hltqb : w.heap.size + 1 < w1.heap.size + 1 := (by omega); clear hb)
          have hs5 := SB.boxAt wr.heap.size 28 HQ.out
          have HQ2 := Aside0.mk ((HQ.out.set1 0 (.slice B0 v'.length d0)).set1 1 (.slice B1 cs'.length d1))
          have HHQ2 := Aside0.mk (HHQ.out.set2 (X' := B0) (n' := v'.length) (c' := d0) (Y' := B1) (m' := cs'.length) (d' := d1) hs5)
          have HHO2 := Aside0.mk (HHO.out.set2 (X' := B0) (n' := v'.length) (c' := d0) (Y' := B1) (m' := cs'.length) (d' := d1) hs5)
          go_roundw
          case rel => exact ⟨i + 1, v, cs, A0, c0, A1, c1, by go_num, by omega, ⟨HGS.out.trans HR.out⟩, ⟨(((HQ2.out.pick [1, 2]).alloc (.cells #[.slice B0 v'.length d0, .slice B1 cs'.length d1] 28)).alloc (.cells #[.int .i64 kx.f0, .slice Be kx.f1.length ce, .int .i64 kx.f2, .bool kx.f3] 31))⟩, ⟨((HHO2.out.below (below_alloc (Below.refl _ _) _)).below (below_alloc (Below.refl _ _) _))⟩⟩
          case measure => simp [intOf]; omega
      have e6 : (x.f0 == 6) = false := beq_eq_false_iff_ne.mpr ck
      by_cases ck : x.f0 = 7
      · skip
        have hgt : gTry v cs x = sKill v cs  := by unfold gTry; simp [ck]
        rw [ck] at q0
        obtain ⟨v', cs', er, hr⟩ : ∃ v' cs' er, sKill v cs  = (v', cs', er) := ⟨_, _, _, rfl⟩
        have HCT := Aside0.mk (show ∀ W, HoldS W A0 c0 A1 c1 v cs → Calls Try.prog 21 #[.agg #[.slice A0 v.length c0, .slice A1 cs.length c1]] W fun e w' => ∃ B0 d0 B1 d1, e = .returned (.tuple #[.agg #[.slice B0 v'.length d0, .slice B1 cs'.length d1], .int .i64 er]) ∧ HoldS w' B0 d0 B1 d1 v' cs' ∧ Below W.heap.size W w' from fun W hH => by have := stkKill hH hm; rw [hr] at this; exact this)
        have HR := Aside0.mk (show gStep (v, cs) x = if er = 0 then (v', cs') else (v, cs) from by unfold gStep; rw [hgt, hr])
        clear hgt hr ck
        by_cases hz : er = 0
        · have hzb : (er == 0) = true := beq_iff_eq.mpr hz
          rw [if_pos hz] at HR
          clear hz
          go_wp2_with (go_at_call 21; refine (HCT.out _ HHP.out).mono ?_; rintro e w1 ⟨B0, d0, B1, d1, rfl, hH1, hb⟩; have HQ := Aside0.mk (HP.out.below hb); have HHQ := Aside0.mk hH1; have HHO := Aside0.mk (HHP.out.below hb); clear hH1; have x2 := SB.boxAt wr.heap.size 28 HQ.out; have z0 := blk_cell x2 0; have z1 := blk_cell x2 1; have y0 := blk_fro x2 0; have y1 := blk_fro x2 1; clear x2; have x3 := SB.boxAt (w.heap.size + 1) 28 HQ.out; have m0 := blk_cell x3 0; have m1 := blk_cell x3 1; have n0 := blk_fro x3 0; have n1 := blk_fro x3 1; clear x3; have hltq : w.heap.size + 1 < w1.heap.size := (by have := hb.size; simp at this; omega); have hlt5 : wr.heap.size < w1.heap.size := (by have := hb.size; simp at this; omega); have hlt5b : wr.heap.size < w1.heap.size + 1 := (by omega); have hltqb : w.heap.size + 1 < w1.heap.size + 1 := (by omega); clear hb)
          have hs5 := SB.boxAt wr.heap.size 28 HQ.out
          have HQ2 := Aside0.mk ((HQ.out.set1 0 (.slice B0 v'.length d0)).set1 1 (.slice B1 cs'.length d1))
          have HHQ2 := Aside0.mk (HHQ.out.set2 (X' := B0) (n' := v'.length) (c' := d0) (Y' := B1) (m' := cs'.length) (d' := d1) hs5)
          have HHO2 := Aside0.mk (HHO.out.set2 (X' := B0) (n' := v'.length) (c' := d0) (Y' := B1) (m' := cs'.length) (d' := d1) hs5)
          go_roundw
          case rel =>
            have hs3 := SB.boxAt (w.heap.size + 1) 28 HQ2.out
            have hSB := (HQ2.out.swap.set1 0 (.slice B0 v'.length d0)).set1 1 (.slice B1 cs'.length d1)
            have hHS := HHQ2.out.set2 (X' := B0) (n' := v'.length) (c' := d0) (Y' := B1) (m' := cs'.length) (d' := d1) hs3
            exact ⟨i + 1, v', cs', B0, d0, B1, d1, by go_num, by omega, ⟨HGS.out.trans HR.out⟩, ⟨(hSB.pick [0, 2])⟩, ⟨hHS⟩⟩
          case measure => simp [intOf]; omega
        · have hzb : (er == 0) = false := beq_eq_false_iff_ne.mpr hz
          rw [if_neg hz] at HR
          clear hz
          go_wp2_with (go_at_call 21; refine (HCT.out _ HHP.out).mono ?_; rintro e w1 ⟨B0, d0, B1, d1, rfl, hH1, hb⟩; have HQ := Aside0.mk (HP.out.below hb); have HHQ := Aside0.mk hH1; have HHO := Aside0.mk (HHP.out.below hb); clear hH1; have x2 := SB.boxAt wr.heap.size 28 HQ.out; have z0 := blk_cell x2 0; have z1 := blk_cell x2 1; have y0 := blk_fro x2 0; have y1 := blk_fro x2 1; clear x2; have x3 := SB.boxAt (w.heap.size + 1) 28 HQ.out; have m0 := blk_cell x3 0; have m1 := blk_cell x3 1; have n0 := blk_fro x3 0; have n1 := blk_fro x3 1; clear x3; have hltq : w.heap.size + 1 < w1.heap.size := (by have := hb.size; simp at this; omega); have hlt5 : wr.heap.size < w1.heap.size := (by have := hb.size; simp at this; omega); have hlt5b : wr.heap.size < w1.heap.size + 1 := (by omega); have hltqb : w.heap.size + 1 < w1.heap.size + 1 := (by omega); clear hb)
          have hs5 := SB.boxAt wr.heap.size 28 HQ.out
          have HQ2 := Aside0.mk ((HQ.out.set1 0 (.slice B0 v'.length d0)).set1 1 (.slice B1 cs'.length d1))
          have HHQ2 := Aside0.mk (HHQ.out.set2 (X' := B0) (n' := v'.length) (c' := d0) (Y' := B1) (m' := cs'.length) (d' := d1) hs5)
          have HHO2 := Aside0.mk (HHO.out.set2 (X' := B0) (n' := v'.length) (c' := d0) (Y' := B1) (m' := cs'.length) (d' := d1) hs5)
          go_roundw
          case rel => exact ⟨i + 1, v, cs, A0, c0, A1, c1, by go_num, by omega, ⟨HGS.out.trans HR.out⟩, ⟨(HQ2.out.pick [1, 2])⟩, ⟨HHO2.out⟩⟩
          case measure => simp [intOf]; omega
      have e7 : (x.f0 == 7) = false := beq_eq_false_iff_ne.mpr ck
      have HR := Aside0.mk (show gStep (v, cs) x = (v, cs) from by
        have hgt : gTry v cs x = (v, cs, 1) := by
          unfold gTry
          simp only [beq_eq_false_iff_ne] at e0 e1 e2 e3 e4 e5 e6 e7
          simp [e0, e1, e2, e3, e4, e5, e6, e7]
        unfold gStep
        rw [hgt]
        rfl)
      go_wp2
      go_roundw
      case rel => exact ⟨i + 1, v, cs, A0, c0, A1, c1, by go_num, by omega, ⟨HGS.out.trans HR.out⟩, ⟨HWr.out.alloc _⟩, ⟨HH.out.below (below_alloc (Below.refl _ _) _)⟩⟩
      case measure => simp [intOf]; omega
    · have d1 : decide ((i : Int) < (l.length : Int)) = false := decide_eq_false (by omega)
      have d2 : decide (i < l.length) = false := decide_eq_false hlt
      have hil : i = l.length := by omega
      have hg := HG.out
      rw [hil, List.take_length] at hg
      have HGG := Aside0.mk hg
      clear hg hil
      have x0 := SB.boxAt w.heap.size 28 HWr.out
      have z0 := blk_cell x0 0
      have z1 := blk_cell x0 1
      have y0 := blk_fro x0 0
      have y1 := blk_fro x0 1
      go_wp2
      have HF := HWr.out.swap.set1 0 (.slice A0 v.length c0) |>.set1 1 (.slice A1 cs.length c1)
      have x9 := SB.boxAt w.heap.size 28 HF
      have f0 := blk_cell x9 0
      have f1 := blk_cell x9 1
      exact bodyPost_ret (v := .agg #[.slice A0 v.length c0, .slice A1 cs.length c1]) (by simp [results, Try.results11, go_sem, f0, f1]) rfl ⟨A0, c0, A1, c1, by rw [HGG.out], by rw [HGG.out]; exact HH.out.set2 x0, HF.bel⟩
end Go.Proofs.Ytagblobimoedcaa.G
