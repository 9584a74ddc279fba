/- Package stack: Want. -/
import Derived.Test.YtagblobimoedcaaStkG
namespace Go.Proofs.Ytagblobimoedcaa.G
open Go.RowKit Go.Proofs.YtagblobimoedcaaW.PrintWords Go.Proofs.YtagblobimoedcaaW.PrintLast Go.Proofs.YtagblobimoedcaaW.PrintMore
set_option linter.unusedVariables false
set_option linter.unusedSimpArgs false
theorem kWant_err {h : Int} {d : Bool} : ∀ (ts vs : List Int), (kWant h d ts vs).2 = 0 ∨ (kWant h d ts vs).2 = 5
  | [], vs => .inl rfl
  | t :: ts, vs => by
    rw [kWant]
    split
    · split
      · exact .inr rfl
      · exact kWant_err ts _
    · exact kPop_err vs h d
def sWant (v : List Int) (cs : List S31) (l : List Int) : List Int × List S31 × Int :=
  if kSane v cs = false then ([], [], 1) else if l = [] then (v, cs, 0) else if cs = [] then ([], [], 5) else
    if (kWant (kTop cs).f2 (kTop cs).f3 l.reverse v).2 = 0 then ((kWant (kTop cs).f2 (kTop cs).f3 l.reverse v).1, cs, 0) else ([], [], 5)
theorem C_lt {w : World} {A : Option Addr} {n : Nat} {xs : List Int} (h : Kd.C (Kd.int .u8) w A n xs) : ∀ ad, A = some ad → 0 < n → ad.block < w.heap.size := by
  intro ad e hn
  obtain ⟨ad', e', hx⟩ := Kd.at_int h 0 (by omega) (by omega)
  rw [e] at e'
  obtain rfl := Option.some.inj e'
  have := World.block_lt_of_cell? w _ hx
  rwa [addBlk] at this
set_option maxHeartbeats 8000000 in
set_option maxRecDepth 100000 in
theorem stkWantS {w : World} {A0 A1 Al : Option Addr} {c0 c1 cl : Nat} {v l : List Int} {cs : List S31} (h : HoldS w A0 c0 A1 c1 v cs) (hl : Kd.C (Kd.int .u8) w Al l.length l) (hm : modest v cs) (hlm : l.length ≤ 400000000) :
    Calls Try.prog 14 #[.agg #[.slice A0 v.length c0, .slice A1 cs.length c1], .slice Al l.length cl] w fun e w' => ∃ B0 d0 B1 d1, e = .returned (.tuple #[.agg #[.slice B0 (sWant v cs l).1.length d0, .slice B1 (sWant v cs l).2.1.length d1], .int .i64 (sWant v cs l).2.2]) ∧
      HoldS w' B0 d0 B1 d1 (sWant v cs l).1 (sWant v cs l).2.1 ∧ Below w.heap.size w w' := by
  have HH := Aside0.mk h
  have HW := Aside0.mk ((((SB.start w).box #[.slice A0 v.length c0, .slice A1 cs.length c1] 28)).box #[.slice none 0 0, .slice none 0 0] 28)
  rw [World.size_alloc] at HW
  have HSA := Aside0.mk (fun (W : World) (hW : Below w.heap.size w W) => stkSane (h.below hW) hm)
  by_cases hA : l = [] ∧ kSane v cs = true
  · obtain ⟨rfl, hsane⟩ := hA
    have hr : sWant v cs [] = (v, cs, 0) := by unfold sWant; rw [if_neg (by rw [hsane]; decide), if_pos rfl]
    rw [hr]
    have HS := Aside0.mk (fun (W : World) (hW : Below w.heap.size w W) => hsane ▸ HSA.out W hW)
    have hcl : bytes_Clone.f v = some v := by unfold bytes_Clone.f; rw [if_pos (by have := hm.1; omega)]
    have hml := hm.2
    clear hr h hl hsane HSA
    go_enter Try.func14, Try.ntmps14
    go_wp2_with (go_at_call 12; refine (HS.out _ HW.out.bel).mono ?_; rintro e w1 ⟨rfl, hb⟩; have HW1 := Aside0.mk (HW.out.below hb); clear hb)
    have hW1 : SB w w1.drew [BoxO (w.heap.size + 1) 28 2 none, Box w.heap.size #[.slice A0 v.length c0, .slice A1 cs.length c1] 28] := (HW1.out.drew).boxHide 2
    refine rg_startL (n := 9) (S := fun w' => SB w w' [BoxO (w.heap.size + 1) 28 2 none, Box w.heap.size #[.slice A0 v.length c0, .slice A1 cs.length c1] 28]) (bm 9 0) (by kernel_rfl) rfl (by kernel_rfl) (hW1) (fun wd hwd hHeld => ?_)
    refine rg_take (i := 0) (N := some 15) (v := ?_) (a' := ?_) (bm 9 1) rfl rfl (by kernel_rfl) (fun _ _ _ h => h) hHeld (Or.inl ⟨by rfl, ?_⟩) ?_ ?_
    rotate_left
    · intro w' hw'
      have hbx := SB.boxAt w.heap.size 28 hw'
      have s0 := blk_cell hbx 0
      have s1 := blk_cell hbx 1
      go_simp
      with_reducible rfl
    rotate_left
    · simp only [Act.put, List.setIfInBounds_toArray, List.set_cons_zero, List.set_cons_succ]
      rfl
    refine rg_take (i := 1) (N := some 16) (v := ?_) (a' := ?_) (bm 9 3) rfl rfl (by kernel_rfl) (fun _ _ _ h => h) hHeld (Or.inl ⟨by rfl, ?_⟩) ?_ ?_
    rotate_left
    · intro w' hw'
      have hbx := SB.boxAt w.heap.size 28 hw'
      have s0 := blk_cell hbx 0
      have s1 := blk_cell hbx 1
      go_simp
      with_reducible rfl
    rotate_left
    · simp only [Act.put, List.setIfInBounds_toArray, List.set_cons_zero, List.set_cons_succ]
      rfl
    refine rg_take (i := 3) (N := some 18) (v := ?_) (a' := ?_) (bm 9 11) rfl rfl (by kernel_rfl) (fun _ _ _ h => h) hHeld (Or.inl ⟨by rfl, ?_⟩) ?_ ?_
    rotate_left
    · intro w' hw'
      have hbx := SB.boxAt w.heap.size 28 hw'
      have s0 := blk_cell hbx 0
      have s1 := blk_cell hbx 1
      go_simp
      with_reducible rfl
    rotate_left
    · simp only [Act.put, List.setIfInBounds_toArray, List.set_cons_zero, List.set_cons_succ]
      rfl
    refine rg_take (i := 4) (N := some 19) (v := ?_) (a' := ?_) (bm 9 27) rfl rfl (by kernel_rfl) (fun _ _ _ h => h) hHeld (Or.inl ⟨by rfl, ?_⟩) ?_ ?_
    rotate_left
    · intro w' hw'
      have hbx := SB.boxAt w.heap.size 28 hw'
      have s0 := blk_cell hbx 0
      have s1 := blk_cell hbx 1
      go_simp
      with_reducible rfl
    rotate_left
    · simp only [Act.put, List.setIfInBounds_toArray, List.set_cons_zero, List.set_cons_succ]
      rfl
    refine rg_ready [2] (by kernel_rfl) (by simp) ?_
    refine rg_one (i := 2) (N := some 17) (bm 9 31) rfl rfl (by kernel_rfl) (fun K hK => ?_) rg_nil
    go_simp
    go_at_call 39
    with_reducible refine (bytes_Clone.calls A0 c0 v v _ (Kd.C_below HH.out.hv hHeld.bel) HH.out.lv hcl).mono ?_
    rintro e wx2r2 ⟨v1, rfl, hr, hb⟩
    obtain ⟨Av, cv, rfl⟩ := Kd.R_slice hr
    have hnew := hHeld.row hb hr
    clear hr hb
    go_wp2_with fail
    refine hK.out _ _ hnew.drop ?_
    clear hK K
    refine rg_norm (a' := ?_) ?_ ?_
    rotate_left
    · simp only [Act.put, List.setIfInBounds_toArray, List.set_cons_zero, List.set_cons_succ]
      rfl
    refine rg_sb hnew ?_
    clear hHeld
    have hHeld := hnew
    clear hnew
    refine rg_ready [5] (by kernel_rfl) (by simp) ?_
    refine rg_one (i := 5) (N := some 20) (bm 9 63) rfl rfl (by kernel_rfl) (fun K hK => ?_) rg_nil
    go_simp
    go_at_call 38
    with_reducible refine (cloneC w A1 c1 cs _ (Kd.C_below (kAt_of HH.out.hc) hHeld.bel) HH.out.lc (by omega)).mono ?_
    rintro e wx2x5r2 ⟨v2, rfl, hr, hb⟩
    obtain ⟨Ac, cc, rfl⟩ := Kd.R_slice hr
    have hnew := hHeld.row hb hr
    clear hr hb
    go_wp2_with fail
    refine hK.out _ _ hnew.drop ?_
    clear hK K
    refine rg_norm (a' := ?_) ?_ ?_
    rotate_left
    · simp only [Act.put, List.setIfInBounds_toArray, List.set_cons_zero, List.set_cons_succ]
      rfl
    refine rg_sb hnew ?_
    clear hHeld
    have hHeld := hnew
    clear hnew
    refine rg_take (i := 6) (N := some 21) (v := ?_) (a' := ?_) (bm 9 127) rfl rfl (by kernel_rfl) (fun _ _ _ h => h) hHeld (Or.inl ⟨by rfl, ?_⟩) ?_ ?_
    rotate_left
    · intro w' hw'
      have hbx := SB.boxAt w.heap.size 28 hw'
      have s0 := blk_cell hbx 0
      have s1 := blk_cell hbx 1
      go_simp
      with_reducible rfl
    rotate_left
    · simp only [Act.put, List.setIfInBounds_toArray, List.set_cons_zero, List.set_cons_succ]
      rfl
    refine rg_ready [7] (by kernel_rfl) (by simp) ?_
    refine rg_one (i := 7) (N := none) (bm 9 255) rfl rfl (by kernel_rfl) (fun K hK => ?_) rg_nil
    obtain ⟨x0, x1, s0, s1, y0, y1, h2, hnew⟩ := SB.write2 (w.heap.size + 1) 28 hHeld (.slice Av v.length cv) (.slice Ac cs.length cc)
    have HZ := Aside0.mk h2
    clear h2
    go_simp
    refine hK.out undef _ hnew ?_
    clear hK K
    refine rg_norm (a' := ?_) ?_ ?_
    rotate_left
    · simp only [Act.put, List.setIfInBounds_toArray, List.set_cons_zero, List.set_cons_succ]
      rfl
    clear hHeld
    have hHeld := hnew
    clear hnew
    refine rg_take (i := 8) (N := some 5) (v := ?_) (a' := ?_) (bm 9 511) rfl rfl (by kernel_rfl) (fun _ _ _ h => h) hHeld (Or.inl ⟨by rfl, ?_⟩) ?_ ?_
    rotate_left
    · intro w' hw'
      have hbx := SB.boxAt w.heap.size 28 hw'
      have s0 := blk_cell hbx 0
      have s1 := blk_cell hbx 1
      go_simp
      with_reducible rfl
    rotate_left
    · simp only [Act.put, List.setIfInBounds_toArray, List.set_cons_zero, List.set_cons_succ]
      rfl
    refine rg_done (by kernel_rfl) ?_
    have x9 := SB.boxOAt (w.heap.size + 1) 28 2 HZ.out
    have f0 := blk_cell x9 0
    have f1 := blk_cell x9 1
    go_wp2
    obtain ⟨hfin, _, _⟩ := holdOf (HZ.out.pick [0, 1])
    exact bodyPost_ret (v := .tuple #[.agg #[.slice Av v.length cv, .slice Ac cs.length cc], .int .i64 0]) (by simp [results, Try.results14, go_sem, f0, f1]) rfl ⟨Av, cv, Ac, cc, rfl, hfin, HZ.out.bel⟩
  by_cases hno : kSane v cs = false ∨ cs = []
  · have HN := Aside0.mk (fun (W : World) (hW : Below w.heap.size w W) => stkBeginNo (h.below hW) hm hno)
    obtain ⟨er, he, hr⟩ : ∃ er : Int, (if kSane v cs then (5 : Int) else 1) = er ∧ er ≠ 0 ∧ sWant v cs l = ([], [], er) := by
      unfold sWant
      cases hk : kSane v cs with
      | false => exact ⟨1, rfl, by decide, by rw [if_pos rfl]⟩
      | true => exact ⟨5, rfl, by decide, by rw [if_neg (by decide), if_neg (fun e => hA ⟨e, hk⟩), if_pos (hno.resolve_left (by rw [hk]; decide))]⟩
    have HER := Aside0.mk he
    rw [hr.2]
    have hne : (er != 0) = true := bne_iff_ne.mpr hr.1
    have hne2 : (er == 0) = false := beq_eq_false_iff_ne.mpr hr.1
    have HL0 : l = [] → kSane v cs = false := fun e => by cases hk : kSane v cs; rfl; exact absurd ⟨e, hk⟩ hA
    clear h he hr hno hA
    by_cases hl0 : l = []
    · have hs0 := HL0 hl0
      subst hl0
      have HS := Aside0.mk (fun (W : World) (hW : Below w.heap.size w W) => hs0 ▸ HSA.out W hW)
      clear HL0 hs0 HSA
      go_enter Try.func14, Try.ntmps14
      go_wp2_with (first
        | (go_at_call 12; refine (HS.out _ HW.out.bel).mono ?_; rintro e w0 ⟨rfl, hb⟩; have HW0 := Aside0.mk (HW.out.below hb); clear hb; have x1 := SB.boxAt w.heap.size 28 HW0.out; have k0 := blk_cell x1 0; have k1 := blk_cell x1 1; clear x1)
        | (go_at_call 40; refine (HN.out _ HW0.out.bel).mono ?_; rintro e w1 ⟨rfl, hb⟩; rw [HER.out]; have HW1 := Aside0.mk (HW0.out.below hb); clear hb; have x2 := SB.boxAt (w.heap.size + 1) 28 HW1.out; have z0 := blk_cell x2 0; have z1 := blk_cell x2 1; have y0 := blk_fro x2 0; have y1 := blk_fro x2 1; have hlt2 : w.heap.size + 1 < w1.heap.size := blk_lt x2; clear x2))
      exact bodyPost_ret (v := .tuple #[.agg #[.slice none 0 0, .slice none 0 0], .int .i64 er]) (by simp [results, Try.results14, go_sem, *]) rfl ⟨none, 0, none, 0, rfl, holdNil _, (((HW1.out.set1 0 (.slice none 0 0)).set1 1 (.slice none 0 0)).alloc _).bel⟩
    · have d0 : ((l.length : Int) == 0) = false := beq_eq_false_iff_ne.mpr (by have := List.length_pos_iff.2 hl0; omega)
      clear HL0 HSA hl0
      go_enter Try.func14, Try.ntmps14
      go_wp2_with (go_at_call 40; refine (HN.out _ HW.out.bel).mono ?_; rintro e w1 ⟨rfl, hb⟩; rw [HER.out]; have HW1 := Aside0.mk (HW.out.below hb); clear hb; have x2 := SB.boxAt (w.heap.size + 1) 28 HW1.out; have z0 := blk_cell x2 0; have z1 := blk_cell x2 1; have y0 := blk_fro x2 0; have y1 := blk_fro x2 1; have hlt2 : w.heap.size + 1 < w1.heap.size := blk_lt x2; clear x2)
      exact bodyPost_ret (v := .tuple #[.agg #[.slice none 0 0, .slice none 0 0], .int .i64 er]) (by simp [results, Try.results14, go_sem, *]) rfl ⟨none, 0, none, 0, rfl, holdNil _, (((HW1.out.set1 0 (.slice none 0 0)).set1 1 (.slice none 0 0)).alloc _).bel⟩
  · obtain ⟨hsane, hne⟩ : kSane v cs = true ∧ cs ≠ [] := ⟨by cases hk : kSane v cs; exact absurd (.inl hk) hno; rfl, fun h => hno (.inr h)⟩
    have hl0 : l ≠ [] := fun e => hA ⟨e, hsane⟩
    obtain ⟨n, hn⟩ : ∃ n, cs.length = n + 1 := ⟨cs.length - 1, by have := List.length_pos_iff.2 hne; omega⟩
    obtain ⟨ht0, ht1, _⟩ := sane_top hsane hne
    have hB := stkBegin HW.out h hm hsane n hn
    have hr : sWant v cs l = if (kWant (kTop cs).f2 (kTop cs).f3 l.reverse v).2 = 0 then ((kWant (kTop cs).f2 (kTop cs).f3 l.reverse v).1, cs, 0) else ([], [], 5) := by
      unfold sWant
      rw [if_neg (by rw [hsane]; decide), if_neg hl0, if_neg hne]
    have her := kWant_err (h := (kTop cs).f2) (d := (kTop cs).f3) l.reverse v
    have HWW := Aside0.mk (fun (W : World) (L : List As) (p g c2 : Nat) (Av : Option Addr) (cv : Nat) (hS : SB w W (WorkL w p g n c2 Av cv v cs ++ L)) (hgp : g < p) (hAp : ∀ ad, Av = some ad → 0 < v.length → ad.block < p) (hwp : w.heap.size ≤ p) =>
      workWant hS hn ht0 (by have := hm.1; omega) Al cl l (Kd.C_below hl hS.bel) (by omega) hgp hAp (fun ad e hz => Nat.lt_of_lt_of_le (C_lt hl ad e hz) hwp))
    rw [hr]
    obtain ⟨v2, er, hk⟩ : ∃ v2 er, kWant (kTop cs).f2 (kTop cs).f3 l.reverse v = (v2, er) := ⟨_, _, rfl⟩
    rw [hk] at her ⊢
    have HP := Aside0.mk (show ∀ (W : World) (L : List As) (p g c2 : Nat) (Av : Option Addr) (cv : Nat), SB w W (WorkL w p g n c2 Av cv v cs ++ L) → g < p → (∀ ad, Av = some ad → 0 < v.length → ad.block < p) → w.heap.size ≤ p →
        Calls Try.prog 41 #[.pointer (some ⟨p, 0, none⟩), .slice Al l.length cl] W fun e w' => e = .returned (.int .i64 er) ∧ SB w w' L ∧ (er = 0 → SB w w' (Box p #[.slice Av v2.length cv, .slice (some ⟨g, 0, none⟩) (n + 1) c2, .pointer (some ⟨g, n * 4, none⟩)] 77 :: Row (kAt w) 31 (.slice (some ⟨g, 0, none⟩) (n + 1) c2) cs :: Row (Kd.int .u8) 5 (.slice Av v2.length cv) v2 :: L)) from
      fun W L p g c2 Av cv hS h1 h2 h3 => by have := HWW.out W L p g c2 Av cv hS h1 h2 h3; rw [hk] at this; exact this)
    simp only at her ⊢
    rw [hn] at hB ⊢
    have HB := Aside0.mk hB
    have d0 : ((l.length : Int) == 0) = false := beq_eq_false_iff_ne.mpr (by have := List.length_pos_iff.2 hl0; omega)
    clear hB HWW hr hk h hno hsane hne ht0 ht1 hA hl hl0 HSA
    rcases her with rfl | rfl
    · simp only [if_true]
      go_enter Try.func14, Try.ntmps14
      go_wp2_with (first
        | (go_at_call 40; refine HB.out.mono ?_; rintro e w1 ⟨Av, cv, g, c2, rfl, hs⟩; have hsz := hs.size; have hlt2 : w.heap.size + 1 < w1.heap.size := blk_lt (SB.boxAt (w.heap.size + 1) 28 hs); have hg := (SB.rowFro hs 0).2; obtain ⟨A', c', he, hcv, hCv⟩ := (hs.drop).reads; (injection he with e1 e2 e3); subst e1 e3; have HAV := Aside0.mk (C_lt hCv); clear hCv; have HW1 := Aside0.mk (hs.box #[.slice Av v.length cv, .slice (some ⟨g, 0, none⟩) (n + 1) c2, .pointer (some ⟨g, n * 4, none⟩)] 77); clear hs)
        | (go_at_call 41; refine (HP.out _ [Box (w.heap.size + 1) #[.slice none 0 0, .slice none 0 0] 28] w1.heap.size g c2 Av cv (HW1.out.pick [0, 1, 2, 3]) hg HAV.out hsz).mono ?_; rintro e w2 ⟨rfl, hs0, hs⟩; have HW2 := Aside0.mk (hs (by first | rfl | trivial)); clear hs hs0; have x2 := SB.boxAt (w.heap.size + 1) 28 HW2.out; have z0 := blk_cell x2 0; have z1 := blk_cell x2 1; have y0 := blk_fro x2 0; have y1 := blk_fro x2 1; clear x2; have x3 := SB.boxAt w1.heap.size 77 HW2.out; have s0 := blk_cell x3 0; have s1 := blk_cell x3 1))
      have HF := Aside0.mk ((SB.boxSet (w.heap.size + 1) 28 (SB.boxSet (w.heap.size + 1) 28 HW2.out 0 (.slice Av v2.length cv) #[.slice Av v2.length cv, .slice none 0 0]) 1 (.slice (some ⟨g, 0, none⟩) (n + 1) c2) #[.slice Av v2.length cv, .slice (some ⟨g, 0, none⟩) (n + 1) c2]))
      have x9 := SB.boxAt (w.heap.size + 1) 28 HF.out
      have f0 := blk_cell x9 0
      have f1 := blk_cell x9 1
      obtain ⟨hfin, _, _⟩ := holdOf (HF.out.pick [1, 2])
      exact bodyPost_ret (v := .tuple #[.agg #[.slice Av v2.length cv, .slice (some ⟨g, 0, none⟩) (n + 1) c2], .int .i64 0]) (by simp [results, Try.results14, go_sem, f0, f1, hlt2]) rfl ⟨Av, cv, some ⟨g, 0, none⟩, c2, by rw [hn], hfin, HF.out.bel⟩
    · simp only [show ¬ ((5 : Int) = 0) by decide, if_false]
      go_enter Try.func14, Try.ntmps14
      go_wp2_with (first
        | (go_at_call 40; refine HB.out.mono ?_; rintro e w1 ⟨Av, cv, g, c2, rfl, hs⟩; have hsz := hs.size; have hlt2 : w.heap.size + 1 < w1.heap.size := blk_lt (SB.boxAt (w.heap.size + 1) 28 hs); have hg := (SB.rowFro hs 0).2; obtain ⟨A', c', he, hcv, hCv⟩ := (hs.drop).reads; (injection he with e1 e2 e3); subst e1 e3; have HAV := Aside0.mk (C_lt hCv); clear hCv; have HW1 := Aside0.mk (hs.box #[.slice Av v.length cv, .slice (some ⟨g, 0, none⟩) (n + 1) c2, .pointer (some ⟨g, n * 4, none⟩)] 77); clear hs)
        | (go_at_call 41; refine (HP.out _ [Box (w.heap.size + 1) #[.slice none 0 0, .slice none 0 0] 28] w1.heap.size g c2 Av cv (HW1.out.pick [0, 1, 2, 3]) hg HAV.out hsz).mono ?_; rintro e w2 ⟨rfl, hs0, hs⟩; have HW2 := Aside0.mk hs0; clear hs hs0; have x2 := SB.boxAt (w.heap.size + 1) 28 HW2.out; have z0 := blk_cell x2 0; have z1 := blk_cell x2 1; have y0 := blk_fro x2 0; have y1 := blk_fro x2 1; clear x2))
      exact bodyPost_ret (v := .tuple #[.agg #[.slice none 0 0, .slice none 0 0], .int .i64 5]) (by simp [results, Try.results14, go_sem, *]) rfl ⟨none, 0, none, 0, rfl, holdNil _, (SB.boxSet (w.heap.size + 1) 28 (SB.boxSet (w.heap.size + 1) 28 HW2.out 0 (.slice none 0 0) #[.slice none 0 0, .slice none 0 0]) 1 (.slice none 0 0) #[.slice none 0 0, .slice none 0 0]).bel⟩
end Go.Proofs.Ytagblobimoedcaa.G
