/- Package stack: Kill. -/
import Derived.Test.YtagblobimoedcaaStkF
import Derived.Test.YtagblobimoedcaaFld
namespace Go.Proofs.Ytagblobimoedcaa.G
open Go.RowKit Go.Proofs.YtagblobimoedcaaW.PrintWords Go.Proofs.YtagblobimoedcaaW.PrintLast Go.Proofs.YtagblobimoedcaaW.PrintMore
set_option linter.unusedVariables false
set_option linter.unusedSimpArgs false
theorem SB.boxHide {w0 w : World} {L : List As} {p t : Nat} {cs : Array Value} (n : Nat) (h : SB w0 w (Box p cs t :: L)) (hn : cs.size = n := by rfl) : SB w0 w (BoxO p t n none :: L) := by
  obtain ⟨F, hF, _, K⟩ := h.frame
  exact K _ (BoxO p t n none) F ⟨cs, hn, hF⟩ (Fr.refl _ _) (fun k hk => .inl hk)
/-- what is open at last, dead. -/
def kDead (cs : List S31) : List S31 := cs.set (cs.length - 1) { kTop cs with f3 := true }
def sKill (v : List Int) (cs : List S31) : List Int × List S31 × Int :=
  if kSane v cs = false then ([], [], 1) else if cs = [] then ([], [], 5) else (v.take (kTop cs).f2.toNat, kDead cs, 0)
theorem work_dead {w0 W : World} {L : List As} {g n c2 : Nat} {cs : List S31} (hS : SB w0 W (Row (kAt w0) 31 (.slice (some ⟨g, 0, none⟩) (n + 1) c2) cs :: L)) (hn : cs.length = n + 1) :
    SB w0 (W.setCell ⟨g, n * 4 + 3, none⟩ (.bool true)) (Row (kAt w0) 31 (.slice (some ⟨g, 0, none⟩) (n + 1) c2) (kDead cs) :: L) := by
  obtain ⟨F, hF, _, K⟩ := hS.frame
  have hg : F g := hF.1.1 g rfl
  have hlt : n < cs.length := by omega
  have e1 : kDead cs = cs.set n { kTop cs with f3 := true } := by unfold kDead; rw [hn]; rfl
  rw [e1]
  refine K _ (Row (kAt w0) 31 (.slice (some ⟨g, 0, none⟩) (n + 1) c2) (cs.set n { kTop cs with f3 := true })) F ⟨R_field (d := kAt w0) (fun h => h) hF.1 hlt (f := 3) (show 3 < 4 by decide) _ _ ?_, fun k hk => by simpa [World.setCell] using hF.2 k hk⟩ ((Fr.refl W F).setCell (p := ⟨g, n * 4 + 3, none⟩) (.inl hg) _) (fun k hk => .inl hk)
  intro base ok css hM
  have e2 : cs[n] = kTop cs := by
    rw [kTop_n hn]
    unfold rd_T31
    rw [Int.toNat_natCast, List.getD_eq_getElem?_getD, List.getElem?_eq_getElem hlt]
    rfl
  rw [e2] at hM
  obtain ⟨A1, c1, rfl, l1, g1⟩ := k31_open hM
  exact k31_mk w0 { kTop cs with f3 := true } l1 g1
theorem SB.rowFro {w0 W : World} {L : List As} {α : Type} {d : Kd α} {e g n c : Nat} {xs : List α} (hS : SB w0 W (Row d e (.slice (some ⟨g, 0, none⟩) n c) xs :: L)) (i : Nat) : W.frozen? ⟨g, i, none⟩ = false ∧ g < W.heap.size := by
  obtain ⟨F, hF, _⟩ := hS.head
  obtain ⟨cells, hc⟩ := Kd.R_typed hF.1 g rfl
  exact ⟨blk_fro hc i, blk_lt hc⟩
theorem kDead_len (cs : List S31) : (kDead cs).length = cs.length := by unfold kDead; rw [List.length_set]
set_option maxHeartbeats 8000000 in
set_option maxRecDepth 100000 in
theorem stkKill {w : World} {A0 A1 : Option Addr} {c0 c1 : Nat} {v : List Int} {cs : List S31} (h : HoldS w A0 c0 A1 c1 v cs) (hm : modest v cs) :
    Calls Try.prog 21 #[.agg #[.slice A0 v.length c0, .slice A1 cs.length c1]] w fun e w' => ∃ B0 d0 B1 d1, e = .returned (.tuple #[.agg #[.slice B0 (sKill v cs).1.length d0, .slice B1 (sKill v cs).2.1.length d1], .int .i64 (sKill v cs).2.2]) ∧
      HoldS w' B0 d0 B1 d1 (sKill v cs).1 (sKill v cs).2.1 ∧ Below w.heap.size w w' := by
  have HH := Aside0.mk h
  have HW := Aside0.mk ((((SB.start w).box #[.slice A0 v.length c0, .slice A1 cs.length c1] 28)).box #[.slice none 0 0, .slice none 0 0] 28)
  rw [World.size_alloc] at HW
  by_cases hno : kSane v cs = false ∨ cs = []
  · have HS := fun (W : World) (hW : Below w.heap.size w W) => stkBeginNo (h.below hW) hm hno
    obtain ⟨er, he, hr⟩ : ∃ er : Int, (if kSane v cs then (5 : Int) else 1) = er ∧ er ≠ 0 ∧ sKill v cs = ([], [], er) := by
      unfold sKill
      cases hk : kSane v cs with
      | false => exact ⟨1, rfl, by decide, by rw [if_pos rfl]⟩
      | true => exact ⟨5, rfl, by decide, by rw [if_neg (by decide), if_pos (hno.resolve_left (by rw [hk]; decide))]⟩
    rw [he] at HS
    rw [hr.2]
    have hne : (er != 0) = true := bne_iff_ne.mpr hr.1
    clear h he hr hno
    go_enter Try.func21, Try.ntmps21
    go_wp2_with (go_at_call 40; refine (HS _ HW.out.bel).mono ?_; rintro e w1 ⟨rfl, hb⟩; have HW1 := Aside0.mk (HW.out.below hb); have hsz := hb.size; clear hb; have x2 := SB.boxAt (w.heap.size + 1) 28 HW1.out; have z0 := blk_cell x2 0; have z1 := blk_cell x2 1; have y0 := blk_fro x2 0; have y1 := blk_fro x2 1; clear x2; have hlt2 : w.heap.size + 1 < w1.heap.size := (by simp at hsz; omega); have hlt1 : w.heap.size < w1.heap.size := (by omega))
    exact bodyPost_ret (v := .tuple #[.agg #[.slice none 0 0, .slice none 0 0], .int .i64 er]) (by simp [results, Try.results21, go_sem, *]) rfl ⟨none, 0, none, 0, rfl, holdNil _, (((HW1.out.set1 0 (.slice none 0 0)).set1 1 (.slice none 0 0)).alloc _).bel⟩
  · obtain ⟨hsane, hne⟩ : kSane v cs = true ∧ cs ≠ [] := ⟨by cases hk : kSane v cs; exact absurd (.inl hk) hno; rfl, fun h => hno (.inr h)⟩
    obtain ⟨n, hn⟩ : ∃ n, cs.length = n + 1 := ⟨cs.length - 1, by have := List.length_pos_iff.2 hne; omega⟩
    obtain ⟨ht0, ht1, _⟩ := sane_top hsane hne
    have hB := stkBegin HW.out h hm hsane n hn
    obtain ⟨t, ht⟩ : ∃ t : Nat, (kTop cs).f2 = (t : Int) := ⟨(kTop cs).f2.toNat, by omega⟩
    have hr : sKill v cs = (v.take t, kDead cs, 0) := by
      unfold sKill
      rw [if_neg (by rw [hsane]; decide), if_neg hne, ht, Int.toNat_natCast]
    rw [hr]
    have htv : t ≤ v.length := by omega
    rw [hn] at hB
    have HB := Aside0.mk hB
    clear hB hr h hno hsane hne ht0 ht1
    have HTV := Aside0.mk htv
    go_enter Try.func21, Try.ntmps21
    rw [hn]
    go_wp2_with (first
        | (go_at_call 40; refine HB.out.mono ?_; rintro e w1 ⟨Av, cv, g, c2, rfl, hs⟩; have hsz := hs.size; have hlt2 : w.heap.size + 1 < w1.heap.size := blk_lt (SB.boxAt (w.heap.size + 1) 28 hs); have HT1 := Aside0.mk (top_cells hs hn); have HV1 := Aside0.mk ((hs.drop).reads); have HW1 := Aside0.mk (hs.box #[.slice Av v.length cv, .slice (some ⟨g, 0, none⟩) (n + 1) c2, .pointer (some ⟨g, n * 4, none⟩)] 77); clear hs))
    obtain ⟨A', c', he, hcv, _⟩ := HV1.out
    injection he with e1 e2 e3
    subst e1 e3
    have HD := Aside0.mk HW1.out.drew
    refine rg_startL (n := 12) (S := fun w' => SB w w' [BoxO w1.heap.size 77 3 none, Row (kAt w) 31 (.slice (some ⟨g, 0, none⟩) (n + 1) c2) cs]) (bm 12 0) (by kernel_rfl) rfl (by kernel_rfl) (((HD.out.boxHide 3).pick [0, 1])) (fun wd hwd hHeld => ?_)
    refine rg_take (i := 0) (N := some 15) (v := ?_) (a' := ?_) (bm 12 1) rfl rfl (by kernel_rfl) (fun _ _ _ h => h) hHeld (Or.inl ⟨by rfl, ?_⟩) ?_ ?_
    rotate_left
    · intro w' hw'
      go_simp
      with_reducible rfl
    rotate_left
    · simp only [Act.put, List.setIfInBounds_toArray, List.set_cons_zero, List.set_cons_succ]
      rfl
    refine rg_take (i := 1) (N := some 16) (v := ?_) (a' := ?_) (bm 12 3) rfl rfl (by kernel_rfl) (fun _ _ _ h => h) hHeld (Or.inl ⟨by rfl, ?_⟩) ?_ ?_
    rotate_left
    · intro w' hw'
      go_simp
      with_reducible rfl
    rotate_left
    · simp only [Act.put, List.setIfInBounds_toArray, List.set_cons_zero, List.set_cons_succ]
      rfl
    refine rg_take (i := 3) (N := some 18) (v := ?_) (a' := ?_) (bm 12 11) rfl rfl (by kernel_rfl) (fun _ _ _ h => h) hHeld (Or.inl ⟨by rfl, ?_⟩) ?_ ?_
    rotate_left
    · intro w' hw'
      go_simp
      with_reducible rfl
    rotate_left
    · simp only [Act.put, List.setIfInBounds_toArray, List.set_cons_zero, List.set_cons_succ]
      rfl
    refine rg_ready [2, 4] (by kernel_rfl) (by simp) ?_
    refine rg_one (i := 2) (N := some 17) (bm 12 15) rfl rfl (by kernel_rfl) (fun K hK => ?_) ?_
    · skip
      have HDD : Aside0 (SB w wd _) := ⟨hwd.out ▸ HD.out⟩
      have x3 := SB.boxAt w1.heap.size 77 HDD.out
      have s0 := blk_cell x3 0
      refine value_ (w1 := wd) (v := ?_) (by rfl) rfl ?_ ?_
      rotate_left
      · go_simp
        with_reducible rfl
      have hnew := hHeld
      refine hK.out _ _ hnew ?_
      clear hK K
      refine rg_norm (a' := ?_) ?_ ?_
      rotate_left
      · simp only [Act.put, List.setIfInBounds_toArray, List.set_cons_zero, List.set_cons_succ]
        rfl
      clear hHeld
      have hHeld := hnew
      clear hnew
      refine rg_ready [4] (by kernel_rfl) (by simp) ?_
      refine rg_one (i := 4) (N := some 19) (bm 12 31) rfl rfl (by kernel_rfl) (fun K hK => ?_) rg_nil
      have HDD : Aside0 (SB w wd _) := ⟨hwd.out ▸ HD.out⟩
      have x3 := SB.boxAt w1.heap.size 77 HDD.out
      have s2 := blk_cell x3 2
      refine value_ (w1 := wd) (v := ?_) (by rfl) rfl ?_ ?_
      rotate_left
      · go_simp
        with_reducible rfl
      have hnew := hHeld
      refine hK.out _ _ hnew ?_
      clear hK K
      refine rg_norm (a' := ?_) ?_ ?_
      rotate_left
      · simp only [Act.put, List.setIfInBounds_toArray, List.set_cons_zero, List.set_cons_succ]
        rfl
      clear hHeld
      have hHeld := hnew
      clear hnew
      refine rg_take (i := 5) (N := some 20) (v := ?_) (a' := ?_) (bm 12 63) rfl rfl (by kernel_rfl) (fun _ _ _ h => h) hHeld (Or.inl ⟨by rfl, ?_⟩) ?_ ?_
      rotate_left
      · intro w' hw'
        go_simp
        with_reducible rfl
      rotate_left
      · simp only [Act.put, List.setIfInBounds_toArray, List.set_cons_zero, List.set_cons_succ]
        rfl
      refine rg_take (i := 6) (N := some 21) (v := ?_) (a' := ?_) (bm 12 127) rfl rfl (by kernel_rfl) (fun _ _ _ h => h) hHeld (Or.inl ⟨by rfl, ?_⟩) ?_ ?_
      rotate_left
      · intro w' hw'
        go_simp
        with_reducible rfl
      rotate_left
      · simp only [Act.put, List.setIfInBounds_toArray, List.set_cons_zero, List.set_cons_succ]
        rfl
      refine rg_ready [7] (by kernel_rfl) (by simp) ?_
      refine rg_one (i := 7) (N := some 22) (bm 12 255) rfl rfl (by kernel_rfl) (fun K hK => ?_) rg_nil
      have HDD : Aside0 (SB w wd _) := ⟨hwd.out ▸ HD.out⟩
      obtain ⟨Ae, ce, a0, a1, a2, a3, _⟩ := top_cells (HDD.out.pick [1]) hn
      refine value_ (w1 := wd) (v := ?_) (by rfl) rfl ?_ ?_
      rotate_left
      · go_simp
        with_reducible rfl
      have hnew := hHeld
      refine hK.out _ _ hnew ?_
      clear hK K
      refine rg_norm (a' := ?_) ?_ ?_
      rotate_left
      · simp only [Act.put, List.setIfInBounds_toArray, List.set_cons_zero, List.set_cons_succ]
        rfl
      clear hHeld
      have hHeld := hnew
      clear hnew
      refine rg_take (i := 8) (N := some 23) (v := ?_) (a' := ?_) (bm 12 511) rfl rfl (by kernel_rfl) (fun _ _ _ h => h) hHeld (Or.inl ⟨by rfl, ?_⟩) ?_ ?_
      rotate_left
      · intro w' hw'
        have hct := cut25 Av v.length cv t HTV.out hcv w'
        go_simp
        with_reducible rfl
      rotate_left
      · simp only [Act.put, List.setIfInBounds_toArray, List.set_cons_zero, List.set_cons_succ]
        rfl
      refine rg_take (i := 9) (N := some 24) (v := ?_) (a' := ?_) (bm 12 1023) rfl rfl (by kernel_rfl) (fun _ _ _ h => h) hHeld (Or.inl ⟨by rfl, ?_⟩) ?_ ?_
      rotate_left
      · intro w' hw'
        go_simp
        with_reducible rfl
      rotate_left
      · simp only [Act.put, List.setIfInBounds_toArray, List.set_cons_zero, List.set_cons_succ]
        rfl
      refine rg_take (i := 10) (N := some 25) (v := ?_) (a' := ?_) (bm 12 2047) rfl rfl (by kernel_rfl) (fun _ _ _ h => h) hHeld (Or.inl ⟨by rfl, ?_⟩) ?_ ?_
      rotate_left
      · intro w' hw'
        go_simp
        with_reducible rfl
      rotate_left
      · simp only [Act.put, List.setIfInBounds_toArray, List.set_cons_zero, List.set_cons_succ]
        rfl
      refine rg_ready [11] (by kernel_rfl) (by simp) ?_
      refine rg_one (i := 11) (N := none) (bm 12 4095) rfl rfl (by kernel_rfl) (fun K hK => ?_) rg_nil
      have HDD : Aside0 (SB w wd _) := ⟨hwd.out ▸ HD.out⟩
      have x3 := SB.boxAt w1.heap.size 77 HDD.out
      have s0 := blk_cell x3 0
      have y0 := blk_fro x3 0
      have HE := Aside0.mk (HDD.out.set1 0 (.slice Av t cv))
      have hnew := (HE.out.boxHide 3).pick [0, 1]
      go_simp
      refine hK.out undef _ hnew ?_
      clear hK K
      refine rg_norm (a' := ?_) ?_ ?_
      rotate_left
      · simp only [Act.put, List.setIfInBounds_toArray, List.set_cons_zero, List.set_cons_succ]
        rfl
      clear hHeld
      have hHeld := hnew
      clear hnew
      refine rg_done (by kernel_rfl) ?_
      have HT2 := Aside0.mk (top_cells (HE.out.pick [1]) hn)
      obtain ⟨Ae, ce, a0, a1, a2, a3, _⟩ := HT2.out
      have q3 := (SB.rowFro (HE.out.pick [1]) (n * 4 + 3)).1
      have x3 := SB.boxAt w1.heap.size 77 HE.out
      have s0 := blk_cell x3 0
      have s1 := blk_cell x3 1
      have s2 := blk_cell x3 2
      have x2 := SB.boxAt (w.heap.size + 1) 28 HE.out
      have z0 := blk_cell x2 0
      have z1 := blk_cell x2 1
      have y0 := blk_fro x2 0
      have y1 := blk_fro x2 1
      clear x2 x3 a0 a1 a2
      go_wp2
      have h1 : SB w _ [Row (kAt w) 31 (.slice (some ⟨g, 0, none⟩) (n + 1) c2) (kDead cs), Row (Kd.int .u8) 5 (.slice Av v.length cv) v, Box (w.heap.size + 1) #[.slice none 0 0, .slice none 0 0] 28] := work_dead (HE.out.pick [1, 2, 3]) hn
      have h2 := SB.boxSet (w.heap.size + 1) 28 h1 0 (.slice Av t cv) #[.slice Av t cv, .slice none 0 0]
      have HF := Aside0.mk (SB.boxSet (w.heap.size + 1) 28 h2 1 (.slice (some ⟨g, 0, none⟩) (n + 1) c2) #[.slice Av t cv, .slice (some ⟨g, 0, none⟩) (n + 1) c2])
      clear h1 h2
      have x9 := SB.boxAt (w.heap.size + 1) 28 HF.out
      have f0 := blk_cell x9 0
      have f1 := blk_cell x9 1
      obtain ⟨hfin, e1, e2⟩ := holdOf (((HF.out.pick [1, 0]).cutRow HTV.out).pick [1, 0])
      exact bodyPost_ret (v := .tuple #[.agg #[.slice Av t cv, .slice (some ⟨g, 0, none⟩) (n + 1) c2], .int .i64 0]) (by simp [results, Try.results21, go_sem, f0, f1, hlt2]) rfl ⟨Av, cv, some ⟨g, 0, none⟩, c2, by rw [← e2], hfin, HF.out.bel⟩
    refine rg_one (i := 4) (N := some 19) (bm 12 27) rfl rfl (by kernel_rfl) (fun K hK => ?_) ?_
    · skip
      have HDD : Aside0 (SB w wd _) := ⟨hwd.out ▸ HD.out⟩
      have x3 := SB.boxAt w1.heap.size 77 HDD.out
      have s2 := blk_cell x3 2
      refine value_ (w1 := wd) (v := ?_) (by rfl) rfl ?_ ?_
      rotate_left
      · go_simp
        with_reducible rfl
      have hnew := hHeld
      refine hK.out _ _ hnew ?_
      clear hK K
      refine rg_norm (a' := ?_) ?_ ?_
      rotate_left
      · simp only [Act.put, List.setIfInBounds_toArray, List.set_cons_zero, List.set_cons_succ]
        rfl
      clear hHeld
      have hHeld := hnew
      clear hnew
      refine rg_take (i := 5) (N := some 20) (v := ?_) (a' := ?_) (bm 12 59) rfl rfl (by kernel_rfl) (fun _ _ _ h => h) hHeld (Or.inl ⟨by rfl, ?_⟩) ?_ ?_
      rotate_left
      · intro w' hw'
        go_simp
        with_reducible rfl
      rotate_left
      · simp only [Act.put, List.setIfInBounds_toArray, List.set_cons_zero, List.set_cons_succ]
        rfl
      refine rg_take (i := 6) (N := some 21) (v := ?_) (a' := ?_) (bm 12 123) rfl rfl (by kernel_rfl) (fun _ _ _ h => h) hHeld (Or.inl ⟨by rfl, ?_⟩) ?_ ?_
      rotate_left
      · intro w' hw'
        go_simp
        with_reducible rfl
      rotate_left
      · simp only [Act.put, List.setIfInBounds_toArray, List.set_cons_zero, List.set_cons_succ]
        rfl
      refine rg_ready [2, 7] (by kernel_rfl) (by simp) ?_
      refine rg_one (i := 2) (N := some 17) (bm 12 127) rfl rfl (by kernel_rfl) (fun K hK => ?_) ?_
      · skip
        have HDD : Aside0 (SB w wd _) := ⟨hwd.out ▸ HD.out⟩
        have x3 := SB.boxAt w1.heap.size 77 HDD.out
        have s0 := blk_cell x3 0
        refine value_ (w1 := wd) (v := ?_) (by rfl) rfl ?_ ?_
        rotate_left
        · go_simp
          with_reducible rfl
        have hnew := hHeld
        refine hK.out _ _ hnew ?_
        clear hK K
        refine rg_norm (a' := ?_) ?_ ?_
        rotate_left
        · simp only [Act.put, List.setIfInBounds_toArray, List.set_cons_zero, List.set_cons_succ]
          rfl
        clear hHeld
        have hHeld := hnew
        clear hnew
        refine rg_ready [7] (by kernel_rfl) (by simp) ?_
        refine rg_one (i := 7) (N := some 22) (bm 12 255) rfl rfl (by kernel_rfl) (fun K hK => ?_) rg_nil
        have HDD : Aside0 (SB w wd _) := ⟨hwd.out ▸ HD.out⟩
        obtain ⟨Ae, ce, a0, a1, a2, a3, _⟩ := top_cells (HDD.out.pick [1]) hn
        refine value_ (w1 := wd) (v := ?_) (by rfl) rfl ?_ ?_
        rotate_left
        · go_simp
          with_reducible rfl
        have hnew := hHeld
        refine hK.out _ _ hnew ?_
        clear hK K
        refine rg_norm (a' := ?_) ?_ ?_
        rotate_left
        · simp only [Act.put, List.setIfInBounds_toArray, List.set_cons_zero, List.set_cons_succ]
          rfl
        clear hHeld
        have hHeld := hnew
        clear hnew
        refine rg_take (i := 8) (N := some 23) (v := ?_) (a' := ?_) (bm 12 511) rfl rfl (by kernel_rfl) (fun _ _ _ h => h) hHeld (Or.inl ⟨by rfl, ?_⟩) ?_ ?_
        rotate_left
        · intro w' hw'
          have hct := cut25 Av v.length cv t HTV.out hcv w'
          go_simp
          with_reducible rfl
        rotate_left
        · simp only [Act.put, List.setIfInBounds_toArray, List.set_cons_zero, List.set_cons_succ]
          rfl
        refine rg_take (i := 9) (N := some 24) (v := ?_) (a' := ?_) (bm 12 1023) rfl rfl (by kernel_rfl) (fun _ _ _ h => h) hHeld (Or.inl ⟨by rfl, ?_⟩) ?_ ?_
        rotate_left
        · intro w' hw'
          go_simp
          with_reducible rfl
        rotate_left
        · simp only [Act.put, List.setIfInBounds_toArray, List.set_cons_zero, List.set_cons_succ]
          rfl
        refine rg_take (i := 10) (N := some 25) (v := ?_) (a' := ?_) (bm 12 2047) rfl rfl (by kernel_rfl) (fun _ _ _ h => h) hHeld (Or.inl ⟨by rfl, ?_⟩) ?_ ?_
        rotate_left
        · intro w' hw'
          go_simp
          with_reducible rfl
        rotate_left
        · simp only [Act.put, List.setIfInBounds_toArray, List.set_cons_zero, List.set_cons_succ]
          rfl
        refine rg_ready [11] (by kernel_rfl) (by simp) ?_
        refine rg_one (i := 11) (N := none) (bm 12 4095) rfl rfl (by kernel_rfl) (fun K hK => ?_) rg_nil
        have HDD : Aside0 (SB w wd _) := ⟨hwd.out ▸ HD.out⟩
        have x3 := SB.boxAt w1.heap.size 77 HDD.out
        have s0 := blk_cell x3 0
        have y0 := blk_fro x3 0
        have HE := Aside0.mk (HDD.out.set1 0 (.slice Av t cv))
        have hnew := (HE.out.boxHide 3).pick [0, 1]
        go_simp
        refine hK.out undef _ hnew ?_
        clear hK K
        refine rg_norm (a' := ?_) ?_ ?_
        rotate_left
        · simp only [Act.put, List.setIfInBounds_toArray, List.set_cons_zero, List.set_cons_succ]
          rfl
        clear hHeld
        have hHeld := hnew
        clear hnew
        refine rg_done (by kernel_rfl) ?_
        have HT2 := Aside0.mk (top_cells (HE.out.pick [1]) hn)
        obtain ⟨Ae, ce, a0, a1, a2, a3, _⟩ := HT2.out
        have q3 := (SB.rowFro (HE.out.pick [1]) (n * 4 + 3)).1
        have x3 := SB.boxAt w1.heap.size 77 HE.out
        have s0 := blk_cell x3 0
        have s1 := blk_cell x3 1
        have s2 := blk_cell x3 2
        have x2 := SB.boxAt (w.heap.size + 1) 28 HE.out
        have z0 := blk_cell x2 0
        have z1 := blk_cell x2 1
        have y0 := blk_fro x2 0
        have y1 := blk_fro x2 1
        clear x2 x3 a0 a1 a2
        go_wp2
        have h1 : SB w _ [Row (kAt w) 31 (.slice (some ⟨g, 0, none⟩) (n + 1) c2) (kDead cs), Row (Kd.int .u8) 5 (.slice Av v.length cv) v, Box (w.heap.size + 1) #[.slice none 0 0, .slice none 0 0] 28] := work_dead (HE.out.pick [1, 2, 3]) hn
        have h2 := SB.boxSet (w.heap.size + 1) 28 h1 0 (.slice Av t cv) #[.slice Av t cv, .slice none 0 0]
        have HF := Aside0.mk (SB.boxSet (w.heap.size + 1) 28 h2 1 (.slice (some ⟨g, 0, none⟩) (n + 1) c2) #[.slice Av t cv, .slice (some ⟨g, 0, none⟩) (n + 1) c2])
        clear h1 h2
        have x9 := SB.boxAt (w.heap.size + 1) 28 HF.out
        have f0 := blk_cell x9 0
        have f1 := blk_cell x9 1
        obtain ⟨hfin, e1, e2⟩ := holdOf (((HF.out.pick [1, 0]).cutRow HTV.out).pick [1, 0])
        exact bodyPost_ret (v := .tuple #[.agg #[.slice Av t cv, .slice (some ⟨g, 0, none⟩) (n + 1) c2], .int .i64 0]) (by simp [results, Try.results21, go_sem, f0, f1, hlt2]) rfl ⟨Av, cv, some ⟨g, 0, none⟩, c2, by rw [← e2], hfin, HF.out.bel⟩
      refine rg_one (i := 7) (N := some 22) (bm 12 251) rfl rfl (by kernel_rfl) (fun K hK => ?_) ?_
      · skip
        have HDD : Aside0 (SB w wd _) := ⟨hwd.out ▸ HD.out⟩
        obtain ⟨Ae, ce, a0, a1, a2, a3, _⟩ := top_cells (HDD.out.pick [1]) hn
        refine value_ (w1 := wd) (v := ?_) (by rfl) rfl ?_ ?_
        rotate_left
        · go_simp
          with_reducible rfl
        have hnew := hHeld
        refine hK.out _ _ hnew ?_
        clear hK K
        refine rg_norm (a' := ?_) ?_ ?_
        rotate_left
        · simp only [Act.put, List.setIfInBounds_toArray, List.set_cons_zero, List.set_cons_succ]
          rfl
        clear hHeld
        have hHeld := hnew
        clear hnew
        refine rg_ready [2] (by kernel_rfl) (by simp) ?_
        refine rg_one (i := 2) (N := some 17) (bm 12 255) rfl rfl (by kernel_rfl) (fun K hK => ?_) rg_nil
        have HDD : Aside0 (SB w wd _) := ⟨hwd.out ▸ HD.out⟩
        have x3 := SB.boxAt w1.heap.size 77 HDD.out
        have s0 := blk_cell x3 0
        refine value_ (w1 := wd) (v := ?_) (by rfl) rfl ?_ ?_
        rotate_left
        · go_simp
          with_reducible rfl
        have hnew := hHeld
        refine hK.out _ _ hnew ?_
        clear hK K
        refine rg_norm (a' := ?_) ?_ ?_
        rotate_left
        · simp only [Act.put, List.setIfInBounds_toArray, List.set_cons_zero, List.set_cons_succ]
          rfl
        clear hHeld
        have hHeld := hnew
        clear hnew
        refine rg_take (i := 8) (N := some 23) (v := ?_) (a' := ?_) (bm 12 511) rfl rfl (by kernel_rfl) (fun _ _ _ h => h) hHeld (Or.inl ⟨by rfl, ?_⟩) ?_ ?_
        rotate_left
        · intro w' hw'
          have hct := cut25 Av v.length cv t HTV.out hcv w'
          go_simp
          with_reducible rfl
        rotate_left
        · simp only [Act.put, List.setIfInBounds_toArray, List.set_cons_zero, List.set_cons_succ]
          rfl
        refine rg_take (i := 9) (N := some 24) (v := ?_) (a' := ?_) (bm 12 1023) rfl rfl (by kernel_rfl) (fun _ _ _ h => h) hHeld (Or.inl ⟨by rfl, ?_⟩) ?_ ?_
        rotate_left
        · intro w' hw'
          go_simp
          with_reducible rfl
        rotate_left
        · simp only [Act.put, List.setIfInBounds_toArray, List.set_cons_zero, List.set_cons_succ]
          rfl
        refine rg_take (i := 10) (N := some 25) (v := ?_) (a' := ?_) (bm 12 2047) rfl rfl (by kernel_rfl) (fun _ _ _ h => h) hHeld (Or.inl ⟨by rfl, ?_⟩) ?_ ?_
        rotate_left
        · intro w' hw'
          go_simp
          with_reducible rfl
        rotate_left
        · simp only [Act.put, List.setIfInBounds_toArray, List.set_cons_zero, List.set_cons_succ]
          rfl
        refine rg_ready [11] (by kernel_rfl) (by simp) ?_
        refine rg_one (i := 11) (N := none) (bm 12 4095) rfl rfl (by kernel_rfl) (fun K hK => ?_) rg_nil
        have HDD : Aside0 (SB w wd _) := ⟨hwd.out ▸ HD.out⟩
        have x3 := SB.boxAt w1.heap.size 77 HDD.out
        have s0 := blk_cell x3 0
        have y0 := blk_fro x3 0
        have HE := Aside0.mk (HDD.out.set1 0 (.slice Av t cv))
        have hnew := (HE.out.boxHide 3).pick [0, 1]
        go_simp
        refine hK.out undef _ hnew ?_
        clear hK K
        refine rg_norm (a' := ?_) ?_ ?_
        rotate_left
        · simp only [Act.put, List.setIfInBounds_toArray, List.set_cons_zero, List.set_cons_succ]
          rfl
        clear hHeld
        have hHeld := hnew
        clear hnew
        refine rg_done (by kernel_rfl) ?_
        have HT2 := Aside0.mk (top_cells (HE.out.pick [1]) hn)
        obtain ⟨Ae, ce, a0, a1, a2, a3, _⟩ := HT2.out
        have q3 := (SB.rowFro (HE.out.pick [1]) (n * 4 + 3)).1
        have x3 := SB.boxAt w1.heap.size 77 HE.out
        have s0 := blk_cell x3 0
        have s1 := blk_cell x3 1
        have s2 := blk_cell x3 2
        have x2 := SB.boxAt (w.heap.size + 1) 28 HE.out
        have z0 := blk_cell x2 0
        have z1 := blk_cell x2 1
        have y0 := blk_fro x2 0
        have y1 := blk_fro x2 1
        clear x2 x3 a0 a1 a2
        go_wp2
        have h1 : SB w _ [Row (kAt w) 31 (.slice (some ⟨g, 0, none⟩) (n + 1) c2) (kDead cs), Row (Kd.int .u8) 5 (.slice Av v.length cv) v, Box (w.heap.size + 1) #[.slice none 0 0, .slice none 0 0] 28] := work_dead (HE.out.pick [1, 2, 3]) hn
        have h2 := SB.boxSet (w.heap.size + 1) 28 h1 0 (.slice Av t cv) #[.slice Av t cv, .slice none 0 0]
        have HF := Aside0.mk (SB.boxSet (w.heap.size + 1) 28 h2 1 (.slice (some ⟨g, 0, none⟩) (n + 1) c2) #[.slice Av t cv, .slice (some ⟨g, 0, none⟩) (n + 1) c2])
        clear h1 h2
        have x9 := SB.boxAt (w.heap.size + 1) 28 HF.out
        have f0 := blk_cell x9 0
        have f1 := blk_cell x9 1
        obtain ⟨hfin, e1, e2⟩ := holdOf (((HF.out.pick [1, 0]).cutRow HTV.out).pick [1, 0])
        exact bodyPost_ret (v := .tuple #[.agg #[.slice Av t cv, .slice (some ⟨g, 0, none⟩) (n + 1) c2], .int .i64 0]) (by simp [results, Try.results21, go_sem, f0, f1, hlt2]) rfl ⟨Av, cv, some ⟨g, 0, none⟩, c2, by rw [← e2], hfin, HF.out.bel⟩
      exact rg_nil
    exact rg_nil
end Go.Proofs.Ytagblobimoedcaa.G
