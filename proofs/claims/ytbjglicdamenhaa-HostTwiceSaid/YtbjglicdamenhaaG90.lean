/- HostTwice: the same is answered the same. -/
import Derived.Deep.DeepMust
import Derived.Test.YtbjglicdamenhaaHstM
namespace Go.Proofs.Ytbjglicdamenhaa.G
open Go.RowKit Go.Proofs.YtbjglicdamenhaaW.PrintWords Go.Proofs.YtbjglicdamenhaaW.PrintLast Go.Proofs.YtbjglicdamenhaaW.PrintMore
attribute [local go_sem] max2_int min2_int max_two min_two max_three min_three max_four min_four   -- for this text's walks alone
set_option linter.unusedVariables false
set_option linter.unusedSimpArgs false
def okA (x : S82) : Prop := okU x.f0 ∧ okI x.f2 ∧ okI x.f4 ∧ okU x.f5
instance (x : S82) : Decidable (okA x) := by unfold okA okU okI; infer_instance
theorem fAns_stuck {ps ts ws : List Int} {rs rs' : List S86} {lg lg' : List S80} {f s v t : Int} {gs : List Int} (h : fAns ps ts ws (fNext rs).1 = (v, t)) (hrs : fRs ps ws rs = rs') (hlg : fLg f ps ws s gs lg = lg') (hok : ∀ r ∈ rs, okR r) :
    (t = 11 ∧ rs' = rs ∧ lg' = lg) ∨ (t ≠ 11 ∧ rs'.length = rs.length - 1 ∧ (∀ r ∈ rs', okR r) ∧ lg' = lg ++ [⟨f, ws, s, gs⟩]) := by
  unfold fAns at h
  unfold fRs at hrs
  unfold fLg at hlg
  cases hf : fitsB ps ws with
  | false =>
    rw [hf] at h hrs hlg
    obtain ⟨rfl, rfl⟩ := Prod.mk.inj h
    exact .inl ⟨rfl, hrs.symm, hlg.symm⟩
  | true =>
    rw [hf] at h hrs hlg
    obtain ⟨x, rs1, hn⟩ : ∃ x rs1, fNext rs = (x, rs1) := ⟨_, _, rfl⟩
    have h1 := okR_next hok hn
    rw [hn] at h hrs
    refine .inr ⟨?_, ?_, ?_, hlg.symm⟩
    · have h3 : (if x.f1 = true then ((0 : Int), (10 : Int)) else (valB ts x.f0, 0)) = (v, t) := h
      split at h3
      · obtain ⟨rfl, rfl⟩ := Prod.mk.inj h3; decide
      · obtain ⟨rfl, rfl⟩ := Prod.mk.inj h3; decide
    · rw [← hrs]; exact h1.2.2
    · rw [← hrs]; exact h1.2.1
def sized (lg : List S80) : Prop := ∀ x ∈ lg, x.f1.length ≤ 1000000 ∧ x.f3.length ≤ 1000000
theorem sized_th {lg : List S80} (h : sized lg) : ∀ x ∈ lg.map th, x.f1.length ≤ 1000000 ∧ x.f3.length ≤ 1000000 := by
  intro x hx
  obtain ⟨y, hy, rfl⟩ := List.mem_map.1 hx
  exact h y hy
set_option maxHeartbeats 8000000 in
set_option maxRecDepth 100000 in
theorem hostTwice (A0 A1 : Option Addr) (c0 c1 : Nat) (l0 : List S82) (l1 : List S40) (w : World) (hC0 : Kd.C k82 w A0 l0.length l0) (hc0 : l0.length ≤ c0) (hC1 : Kd.C k40 w A1 l1.length l1) (hc1 : l1.length ≤ c1) (hok : ∀ x ∈ l0, okA x) :
    Calls Try.prog 3 #[.slice A0 l0.length c0, .slice A1 l1.length c1] w fun e w' => e = .returned (.bool true) ∧ Below w.heap.size w w' := by
  have HC0 := Aside0.mk hC0
  have HC1 := Aside0.mk hC1
  have HOK := Aside0.mk hok
  have HST := Aside0.mk (SB.start w)
  obtain ⟨fw, hfw⟩ : ∃ fw, fewB l0 = fw := ⟨_, rfl⟩
  have HFW := Aside0.mk hfw
  obtain ⟨sm, hsm⟩ : ∃ sm, smallB l1 = sm := ⟨_, rfl⟩
  have HSM := Aside0.mk hsm
  have HF0 := Aside0.mk (fun (W : World) (hS : SB w W []) => hFew hS A0 c0 l0 (Kd.C_below hC0 hS.bel) hc0)
  have HF1 := Aside0.mk (fun (W : World) (hS : SB w W []) => hSmall hS A1 c1 l1 (Kd.C_below hC1 hS.bel) hc1)
  rw [hfw] at HF0
  rw [hsm] at HF1
  clear hC0 hC1 hok hfw hsm
  cases fw with
  | false =>
    go_enter Try.func3, Try.ntmps3
    go_wp2_with (first
      | (go_at_call 7; (with_reducible refine (awake _).mono ?_); rintro e w1 ⟨rfl, hbl⟩; have HB := Aside0.mk (HST.out.below hbl); clear hbl)
      | (go_at_call 8; (with_reducible refine (HF0.out _ HB.out).mono ?_); rintro e w2 ⟨rfl, hs⟩; have HB2 := Aside0.mk hs; clear hs))
    go_ret
    exact ⟨rfl, HB2.out.bel⟩
  | true =>
  cases sm with
  | false =>
    go_enter Try.func3, Try.ntmps3
    go_wp2_with (first
      | (go_at_call 7; (with_reducible refine (awake _).mono ?_); rintro e w1 ⟨rfl, hbl⟩; have HB := Aside0.mk (HST.out.below hbl); clear hbl)
      | (go_at_call 8; (with_reducible refine (HF0.out _ HB.out).mono ?_); rintro e w2 ⟨rfl, hs⟩; have HB2 := Aside0.mk hs; clear hs)
      | (go_at_call 9; (with_reducible refine (HF1.out _ HB2.out).mono ?_); rintro e w3 ⟨rfl, hs⟩; have HB3 := Aside0.mk hs; clear hs))
    go_ret
    exact ⟨rfl, HB3.out.bel⟩
  | true =>
  have hN := (fewB_iff HFW.out).1
  have hL := (smallB_iff HSM.out).1
  obtain ⟨n0, hn0⟩ : ∃ n, l0.length = n := ⟨_, rfl⟩
  obtain ⟨n1, hn1⟩ : ∃ n, l1.length = n := ⟨_, rfl⟩
  have HOU := Aside0.mk (fun (W : World) (L : List As) (hS : SB w W L) => hOurs hS A0 c0 l0 HC0.out hc0 (by omega))
  have HR0 := Aside0.mk (show ∀ r ∈ l0.map ou, okR r from fun r hr => by
    obtain ⟨y, hy, rfl⟩ := List.mem_map.1 hr
    have h1 := HOK.out y hy
    exact ⟨h1.1, h1.2.1, (fewB_iff HFW.out).2 y hy, h1.2.2.1, h1.2.2.2⟩)
  obtain ⟨l2, hl2⟩ : ∃ l2, l0.map ou = l2 := ⟨_, rfl⟩
  have HL2 := Aside0.mk (show l2.length = n0 by rw [← hl2, List.length_map, hn0])
  rw [hl2, hn0] at HOU
  rw [hl2] at HR0
  have HNE := Aside0.mk (fun (W : World) (L : List As) (A : Option Addr) (c : Nat) (hS : SB w W L) (hC : Kd.C k86 W A n0 l2) (hc : n0 ≤ c) => (show Calls Try.prog 10 #[.slice A n0 c] W fun e w' => ∃ p, e = .returned (.pointer (some ⟨p, 0, none⟩)) ∧ SB w w' (HO p l2 [] :: L) from by
    have h2 := HL2.out
    subst h2
    exact hstNew hS A c l2 hC hc (by omega) (fun x hx => by have := (HR0.out x hx).len; omega)))
  rw [hn0] at HF0 ⊢
  rw [hn1] at HF1 ⊢
  have HN1 := Aside0.mk hn1
  clear hl2
  go_enter Try.func3, Try.ntmps3
  go_wp2_with (first
    | (go_at_call 7; (with_reducible refine (awake _).mono ?_); rintro e w1 ⟨rfl, hbl⟩; have HB := Aside0.mk (HST.out.below hbl); clear hbl)
    | (go_at_call 8; (with_reducible refine (HF0.out _ HB.out).mono ?_); rintro e w2 ⟨rfl, hs⟩; have HB2 := Aside0.mk hs; clear hs)
    | (go_at_call 9; (with_reducible refine (HF1.out _ HB2.out).mono ?_); rintro e w3 ⟨rfl, hs⟩; have HB3 := Aside0.mk hs; clear hs)
    | (go_at_call 11; (with_reducible refine (HOU.out _ _ HB5.out).mono ?_); rintro e w6 ⟨A6, d6, rfl, h6, hC6, hs⟩; have HC6 := Aside0.mk hC6; have HB6 := Aside0.mk hs; clear hs hC6)
    | (go_at_call 11; (with_reducible refine (HOU.out _ _ HB3.out).mono ?_); rintro e w4 ⟨A4, d4, rfl, h4, hC4, hs⟩; have HC4 := Aside0.mk hC4; have HB4 := Aside0.mk hs; clear hs hC4)
    | (go_at_call 10; (with_reducible refine (HNE.out _ _ _ _ HB6.out HC6.out h6).mono ?_); rintro e w7 ⟨pb, rfl, hs⟩; have HB7 := Aside0.mk hs; clear hs)
    | (go_at_call 10; (with_reducible refine (HNE.out _ _ _ _ HB4.out HC4.out h4).mono ?_); rintro e w5 ⟨pa, rfl, hs⟩; have HB5 := Aside0.mk hs; clear hs))
  go_loopw [8, 9] (fun v8 v9 wr => ∃ (i : Nat) (rs : List S86) (lg : List S80) (m : Nat), v9 = .int .i64 i ∧ v8 = .int .i64 m ∧ i ≤ n1 ∧ m ≤ i ∧ Aside0 (lg.length = m) ∧ Aside0 (rs.length = n0 - m) ∧ Aside0 (∀ r ∈ rs, okR r) ∧ Aside0 (sized lg) ∧ Aside0 (SB w wr [HO pa rs lg, HO pb rs lg])) (fun _ v9 _ => n1 - (intOf v9).toNat)
  case atStart => exact ⟨0, l2, [], 0, rfl, rfl, Nat.zero_le _, Nat.le_refl _, ⟨rfl⟩, HL2, HR0, ⟨fun x hx => by cases hx⟩, ⟨HB7.out.swap⟩⟩
  case round =>
    obtain ⟨i, rs, lg, m, rfl, rfl, hi, hmi, HM, HRL, HRO, HSZ, HR⟩ := hrel
    by_cases hlt : i < n1
    · have e1 : decide ((i : Int) < (n1 : Int)) = true := decide_eq_true (by omega)
      have e2 : decide (i < n1) = true := decide_eq_true hlt
      have hil : i < l1.length := by rw [HN1.out]; exact hlt
      obtain ⟨x, hx⟩ : ∃ x, l1[i] = x := ⟨_, rfl⟩
      have hlb0 := (smallB_iff HSM.out).2 x (by rw [← hx]; exact List.getElem_mem _)
      have hlb : x.f1.f0.length ≤ 1000000 ∧ x.f2.length ≤ 1000000 ∧ x.f1.f1.length ≤ 1000000 := ⟨by omega, by omega, by omega⟩
      have hat := at_T40 HC1.out (i : Int) (by omega) (by omega)
      rw [rd40 hil, hx, Int.toNat_natCast] at hat
      obtain ⟨ad, P1, d1, P2, d2, P3, d3, hAd, q0, q1, q2, q3, l3, g3, l4, g4, hl5, g5⟩ := hat
      have HQ := Aside0.mk (And.intro q0 (And.intro q1 (And.intro q2 q3)))
      have HA1 := Aside0.mk g3
      have HA2 := Aside0.mk g4
      have HA3 := Aside0.mk g5
      obtain ⟨v, t, hans⟩ : ∃ v t, fAns x.f1.f0 x.f1.f1 x.f2 (fNext rs).1 = (v, t) := ⟨_, _, rfl⟩
      obtain ⟨rs', hrs⟩ : ∃ rs', fRs x.f1.f0 x.f2 rs = rs' := ⟨_, rfl⟩
      obtain ⟨lg', hlg⟩ : ∃ lg', fLg x.f0 x.f1.f0 x.f2 14695981039346656037 [] lg = lg' := ⟨_, rfl⟩
      have HANS := Aside0.mk hans
      have HRS := Aside0.mk hrs
      have HLG := Aside0.mk hlg
      have HFS := Aside0.mk (fAns_stuck hans hrs hlg HRO.out)
      have hlg6 : lg.length ≤ 1000000 := by rw [HM.out]; omega
      subst hAd
      clear hx hlb0 q0 q1 q2 q3 l3 g3 l4 g4 g5 hans hrs hlg
      go_wp2

      refine rg_startL (n := 22) (S := fun w' => Below w.heap.size w w') (bm 22 0) (by kernel_rfl) rfl (by kernel_rfl) (HR.out.drew.bel) (fun wd10 hwd10 hHeld => ?_)
      refine rg_take (i := 0) (N := some 40) (v := ?_) (a' := ?_) (bm 22 1) rfl rfl (by kernel_rfl) (fun _ _ _ h => h) hHeld (Or.inl ⟨by rfl, ?_⟩) ?_ ?_
      rotate_left
      · intro w' hw'
        have q0 := pw_cell_below hw' HQ.out.1
        have q1 := pw_cell_below hw' HQ.out.2.1
        have q2 := pw_cell_below hw' HQ.out.2.2.1
        have q3 := pw_cell_below hw' HQ.out.2.2.2
        go_simp
        with_reducible rfl
      rotate_left
      · simp only [Act.put, List.setIfInBounds_toArray, List.set_cons_zero, List.set_cons_succ]
        rfl
      refine rg_take (i := 1) (N := some 41) (v := ?_) (a' := ?_) (bm 22 3) rfl rfl (by kernel_rfl) (fun _ _ _ h => h) hHeld (Or.inl ⟨by rfl, ?_⟩) ?_ ?_
      rotate_left
      · intro w' hw'
        have q0 := pw_cell_below hw' HQ.out.1
        have q1 := pw_cell_below hw' HQ.out.2.1
        have q2 := pw_cell_below hw' HQ.out.2.2.1
        have q3 := pw_cell_below hw' HQ.out.2.2.2
        go_simp
        with_reducible rfl
      rotate_left
      · simp only [Act.put, List.setIfInBounds_toArray, List.set_cons_zero, List.set_cons_succ]
        rfl
      refine rg_take (i := 2) (N := some 42) (v := ?_) (a' := ?_) (bm 22 7) rfl rfl (by kernel_rfl) (fun _ _ _ h => h) hHeld (Or.inl ⟨by rfl, ?_⟩) ?_ ?_
      rotate_left
      · intro w' hw'
        have q0 := pw_cell_below hw' HQ.out.1
        have q1 := pw_cell_below hw' HQ.out.2.1
        have q2 := pw_cell_below hw' HQ.out.2.2.1
        have q3 := pw_cell_below hw' HQ.out.2.2.2
        go_simp
        with_reducible rfl
      rotate_left
      · simp only [Act.put, List.setIfInBounds_toArray, List.set_cons_zero, List.set_cons_succ]
        rfl
      refine rg_take (i := 3) (N := some 43) (v := ?_) (a' := ?_) (bm 22 15) rfl rfl (by kernel_rfl) (fun _ _ _ h => h) hHeld (Or.inl ⟨by rfl, ?_⟩) ?_ ?_
      rotate_left
      · intro w' hw'
        have q0 := pw_cell_below hw' HQ.out.1
        have q1 := pw_cell_below hw' HQ.out.2.1
        have q2 := pw_cell_below hw' HQ.out.2.2.1
        have q3 := pw_cell_below hw' HQ.out.2.2.2
        go_simp
        with_reducible rfl
      rotate_left
      · simp only [Act.put, List.setIfInBounds_toArray, List.set_cons_zero, List.set_cons_succ]
        rfl
      refine rg_take (i := 4) (N := some 44) (v := ?_) (a' := ?_) (bm 22 31) rfl rfl (by kernel_rfl) (fun _ _ _ h => h) hHeld (Or.inl ⟨by rfl, ?_⟩) ?_ ?_
      rotate_left
      · intro w' hw'
        have q0 := pw_cell_below hw' HQ.out.1
        have q1 := pw_cell_below hw' HQ.out.2.1
        have q2 := pw_cell_below hw' HQ.out.2.2.1
        have q3 := pw_cell_below hw' HQ.out.2.2.2
        go_simp
        with_reducible rfl
      rotate_left
      · simp only [Act.put, List.setIfInBounds_toArray, List.set_cons_zero, List.set_cons_succ]
        rfl
      refine rg_take (i := 5) (N := some 45) (v := ?_) (a' := ?_) (bm 22 63) rfl rfl (by kernel_rfl) (fun _ _ _ h => h) hHeld (Or.inl ⟨by rfl, ?_⟩) ?_ ?_
      rotate_left
      · intro w' hw'
        have q0 := pw_cell_below hw' HQ.out.1
        have q1 := pw_cell_below hw' HQ.out.2.1
        have q2 := pw_cell_below hw' HQ.out.2.2.1
        have q3 := pw_cell_below hw' HQ.out.2.2.2
        go_simp
        with_reducible rfl
      rotate_left
      · simp only [Act.put, List.setIfInBounds_toArray, List.set_cons_zero, List.set_cons_succ]
        rfl
      refine rg_take (i := 6) (N := some 46) (v := ?_) (a' := ?_) (bm 22 127) rfl rfl (by kernel_rfl) (fun _ _ _ h => h) hHeld (Or.inl ⟨by rfl, ?_⟩) ?_ ?_
      rotate_left
      · intro w' hw'
        have q0 := pw_cell_below hw' HQ.out.1
        have q1 := pw_cell_below hw' HQ.out.2.1
        have q2 := pw_cell_below hw' HQ.out.2.2.1
        have q3 := pw_cell_below hw' HQ.out.2.2.2
        go_simp
        with_reducible rfl
      rotate_left
      · simp only [Act.put, List.setIfInBounds_toArray, List.set_cons_zero, List.set_cons_succ]
        rfl
      refine rg_take (i := 7) (N := some 47) (v := ?_) (a' := ?_) (bm 22 255) rfl rfl (by kernel_rfl) (fun _ _ _ h => h) hHeld (Or.inl ⟨by rfl, ?_⟩) ?_ ?_
      rotate_left
      · intro w' hw'
        have q0 := pw_cell_below hw' HQ.out.1
        have q1 := pw_cell_below hw' HQ.out.2.1
        have q2 := pw_cell_below hw' HQ.out.2.2.1
        have q3 := pw_cell_below hw' HQ.out.2.2.2
        go_simp
        with_reducible rfl
      rotate_left
      · simp only [Act.put, List.setIfInBounds_toArray, List.set_cons_zero, List.set_cons_succ]
        rfl
      refine rg_take (i := 8) (N := some 48) (v := ?_) (a' := ?_) (bm 22 511) rfl rfl (by kernel_rfl) (fun _ _ _ h => h) hHeld (Or.inl ⟨by rfl, ?_⟩) ?_ ?_
      rotate_left
      · intro w' hw'
        have q0 := pw_cell_below hw' HQ.out.1
        have q1 := pw_cell_below hw' HQ.out.2.1
        have q2 := pw_cell_below hw' HQ.out.2.2.1
        have q3 := pw_cell_below hw' HQ.out.2.2.2
        go_simp
        with_reducible rfl
      rotate_left
      · simp only [Act.put, List.setIfInBounds_toArray, List.set_cons_zero, List.set_cons_succ]
        rfl
      refine rg_take (i := 9) (N := some 49) (v := ?_) (a' := ?_) (bm 22 1023) rfl rfl (by kernel_rfl) (fun _ _ _ h => h) hHeld (Or.inl ⟨by rfl, ?_⟩) ?_ ?_
      rotate_left
      · intro w' hw'
        have q0 := pw_cell_below hw' HQ.out.1
        have q1 := pw_cell_below hw' HQ.out.2.1
        have q2 := pw_cell_below hw' HQ.out.2.2.1
        have q3 := pw_cell_below hw' HQ.out.2.2.2
        go_simp
        with_reducible rfl
      rotate_left
      · simp only [Act.put, List.setIfInBounds_toArray, List.set_cons_zero, List.set_cons_succ]
        rfl
      refine rg_take (i := 10) (N := some 50) (v := ?_) (a' := ?_) (bm 22 2047) rfl rfl (by kernel_rfl) (fun _ _ _ h => h) hHeld (Or.inl ⟨by rfl, ?_⟩) ?_ ?_
      rotate_left
      · intro w' hw'
        have q0 := pw_cell_below hw' HQ.out.1
        have q1 := pw_cell_below hw' HQ.out.2.1
        have q2 := pw_cell_below hw' HQ.out.2.2.1
        have q3 := pw_cell_below hw' HQ.out.2.2.2
        go_simp
        with_reducible rfl
      rotate_left
      · simp only [Act.put, List.setIfInBounds_toArray, List.set_cons_zero, List.set_cons_succ]
        rfl
      refine rg_take (i := 11) (N := some 51) (v := ?_) (a' := ?_) (bm 22 4095) rfl rfl (by kernel_rfl) (fun _ _ _ h => h) hHeld (Or.inl ⟨by rfl, ?_⟩) ?_ ?_
      rotate_left
      · intro w' hw'
        have q0 := pw_cell_below hw' HQ.out.1
        have q1 := pw_cell_below hw' HQ.out.2.1
        have q2 := pw_cell_below hw' HQ.out.2.2.1
        have q3 := pw_cell_below hw' HQ.out.2.2.2
        go_simp
        with_reducible rfl
      rotate_left
      · simp only [Act.put, List.setIfInBounds_toArray, List.set_cons_zero, List.set_cons_succ]
        rfl
      refine rg_take (i := 12) (N := some 52) (v := ?_) (a' := ?_) (bm 22 8191) rfl rfl (by kernel_rfl) (fun _ _ _ h => h) hHeld (Or.inl ⟨by rfl, ?_⟩) ?_ ?_
      rotate_left
      · intro w' hw'
        have q0 := pw_cell_below hw' HQ.out.1
        have q1 := pw_cell_below hw' HQ.out.2.1
        have q2 := pw_cell_below hw' HQ.out.2.2.1
        have q3 := pw_cell_below hw' HQ.out.2.2.2
        go_simp
        with_reducible rfl
      rotate_left
      · simp only [Act.put, List.setIfInBounds_toArray, List.set_cons_zero, List.set_cons_succ]
        rfl
      refine rg_take (i := 13) (N := some 53) (v := ?_) (a' := ?_) (bm 22 16383) rfl rfl (by kernel_rfl) (fun _ _ _ h => h) hHeld (Or.inl ⟨by rfl, ?_⟩) ?_ ?_
      rotate_left
      · intro w' hw'
        have q0 := pw_cell_below hw' HQ.out.1
        have q1 := pw_cell_below hw' HQ.out.2.1
        have q2 := pw_cell_below hw' HQ.out.2.2.1
        have q3 := pw_cell_below hw' HQ.out.2.2.2
        go_simp
        with_reducible rfl
      rotate_left
      · simp only [Act.put, List.setIfInBounds_toArray, List.set_cons_zero, List.set_cons_succ]
        rfl
      refine rg_take (i := 14) (N := some 54) (v := ?_) (a' := ?_) (bm 22 32767) rfl rfl (by kernel_rfl) (fun _ _ _ h => h) hHeld (Or.inl ⟨by rfl, ?_⟩) ?_ ?_
      rotate_left
      · intro w' hw'
        have q0 := pw_cell_below hw' HQ.out.1
        have q1 := pw_cell_below hw' HQ.out.2.1
        have q2 := pw_cell_below hw' HQ.out.2.2.1
        have q3 := pw_cell_below hw' HQ.out.2.2.2
        go_simp
        with_reducible rfl
      rotate_left
      · simp only [Act.put, List.setIfInBounds_toArray, List.set_cons_zero, List.set_cons_succ]
        rfl
      refine rg_take (i := 15) (N := some 55) (v := ?_) (a' := ?_) (bm 22 65535) rfl rfl (by kernel_rfl) (fun _ _ _ h => h) hHeld (Or.inl ⟨by rfl, ?_⟩) ?_ ?_
      rotate_left
      · intro w' hw'
        have q0 := pw_cell_below hw' HQ.out.1
        have q1 := pw_cell_below hw' HQ.out.2.1
        have q2 := pw_cell_below hw' HQ.out.2.2.1
        have q3 := pw_cell_below hw' HQ.out.2.2.2
        go_simp
        with_reducible rfl
      rotate_left
      · simp only [Act.put, List.setIfInBounds_toArray, List.set_cons_zero, List.set_cons_succ]
        rfl
      refine rg_ready [16] (by kernel_rfl) (by simp) ?_
      refine rg_one (i := 16) (N := some 56) (bm 22 131071) rfl rfl (by kernel_rfl) (fun K hK => ?_) rg_nil
      have HD10 := Aside0.mk (hwd10.out ▸ HR.out.drew)
      go_simp
      go_at_call 12
      with_reducible refine (hstDoN x.f0 HD10.out HA1.out HA2.out HA3.out hl5 hlb.1 hlb.2.1 hlb.2.2 hlg6 HRO.out HANS.out HRS.out HLG.out).mono ?_
      rintro e wx16r10 ⟨rfl, hs⟩
      have HS10 := Aside0.mk hs
      have hnew := hs.bel
      clear hs
      go_wp2_with fail
      refine hK.out _ _ hnew ?_
      clear hK K
      refine rg_norm (a' := ?_) ?_ ?_
      rotate_left
      · simp only [Act.put, List.setIfInBounds_toArray, List.set_cons_zero, List.set_cons_succ]
        rfl
      clear hHeld
      have hHeld := hnew
      clear hnew
      refine rg_take (i := 17) (N := some 39) (v := ?_) (a' := ?_) (bm 22 262143) rfl rfl (by kernel_rfl) (fun _ _ _ h => h) hHeld (Or.inl ⟨by rfl, ?_⟩) ?_ ?_
      rotate_left
      · intro w' hw'
        have q0 := pw_cell_below hw' HQ.out.1
        have q1 := pw_cell_below hw' HQ.out.2.1
        have q2 := pw_cell_below hw' HQ.out.2.2.1
        have q3 := pw_cell_below hw' HQ.out.2.2.2
        go_simp
        with_reducible rfl
      rotate_left
      · simp only [Act.put, List.setIfInBounds_toArray, List.set_cons_zero, List.set_cons_succ]
        rfl
      refine rg_take (i := 18) (N := some 57) (v := ?_) (a' := ?_) (bm 22 524287) rfl rfl (by kernel_rfl) (fun _ _ _ h => h) hHeld (Or.inl ⟨by rfl, ?_⟩) ?_ ?_
      rotate_left
      · intro w' hw'
        have q0 := pw_cell_below hw' HQ.out.1
        have q1 := pw_cell_below hw' HQ.out.2.1
        have q2 := pw_cell_below hw' HQ.out.2.2.1
        have q3 := pw_cell_below hw' HQ.out.2.2.2
        go_simp
        with_reducible rfl
      rotate_left
      · simp only [Act.put, List.setIfInBounds_toArray, List.set_cons_zero, List.set_cons_succ]
        rfl
      refine rg_take (i := 19) (N := some 58) (v := ?_) (a' := ?_) (bm 22 1048575) rfl rfl (by kernel_rfl) (fun _ _ _ h => h) hHeld (Or.inl ⟨by rfl, ?_⟩) ?_ ?_
      rotate_left
      · intro w' hw'
        have q0 := pw_cell_below hw' HQ.out.1
        have q1 := pw_cell_below hw' HQ.out.2.1
        have q2 := pw_cell_below hw' HQ.out.2.2.1
        have q3 := pw_cell_below hw' HQ.out.2.2.2
        go_simp
        with_reducible rfl
      rotate_left
      · simp only [Act.put, List.setIfInBounds_toArray, List.set_cons_zero, List.set_cons_succ]
        rfl
      refine rg_take (i := 20) (N := some 10) (v := ?_) (a' := ?_) (bm 22 2097151) rfl rfl (by kernel_rfl) (fun _ _ _ h => h) hHeld (Or.inl ⟨by rfl, ?_⟩) ?_ ?_
      rotate_left
      · intro w' hw'
        have q0 := pw_cell_below hw' HQ.out.1
        have q1 := pw_cell_below hw' HQ.out.2.1
        have q2 := pw_cell_below hw' HQ.out.2.2.1
        have q3 := pw_cell_below hw' HQ.out.2.2.2
        go_simp
        with_reducible rfl
      rotate_left
      · simp only [Act.put, List.setIfInBounds_toArray, List.set_cons_zero, List.set_cons_succ]
        rfl
      refine rg_take (i := 21) (N := some 11) (v := ?_) (a' := ?_) (bm 22 4194303) rfl rfl (by kernel_rfl) (fun _ _ _ h => h) hHeld (Or.inl ⟨by rfl, ?_⟩) ?_ ?_
      rotate_left
      · intro w' hw'
        have q0 := pw_cell_below hw' HQ.out.1
        have q1 := pw_cell_below hw' HQ.out.2.1
        have q2 := pw_cell_below hw' HQ.out.2.2.1
        have q3 := pw_cell_below hw' HQ.out.2.2.2
        go_simp
        with_reducible rfl
      rotate_left
      · simp only [Act.put, List.setIfInBounds_toArray, List.set_cons_zero, List.set_cons_succ]
        rfl
      refine rg_done (by kernel_rfl) ?_
      go_wp2
      have HS10b := Aside0.mk HS10.out.swap
      refine rg_startL (n := 22) (S := fun w' => Below w.heap.size w w') (bm 22 0) (by kernel_rfl) rfl (by kernel_rfl) (HS10b.out.drew.bel) (fun wd11 hwd11 hHeld => ?_)
      refine rg_take (i := 0) (N := some 60) (v := ?_) (a' := ?_) (bm 22 1) rfl rfl (by kernel_rfl) (fun _ _ _ h => h) hHeld (Or.inl ⟨by rfl, ?_⟩) ?_ ?_
      rotate_left
      · intro w' hw'
        have q0 := pw_cell_below hw' HQ.out.1
        have q1 := pw_cell_below hw' HQ.out.2.1
        have q2 := pw_cell_below hw' HQ.out.2.2.1
        have q3 := pw_cell_below hw' HQ.out.2.2.2
        go_simp
        with_reducible rfl
      rotate_left
      · simp only [Act.put, List.setIfInBounds_toArray, List.set_cons_zero, List.set_cons_succ]
        rfl
      refine rg_take (i := 1) (N := some 61) (v := ?_) (a' := ?_) (bm 22 3) rfl rfl (by kernel_rfl) (fun _ _ _ h => h) hHeld (Or.inl ⟨by rfl, ?_⟩) ?_ ?_
      rotate_left
      · intro w' hw'
        have q0 := pw_cell_below hw' HQ.out.1
        have q1 := pw_cell_below hw' HQ.out.2.1
        have q2 := pw_cell_below hw' HQ.out.2.2.1
        have q3 := pw_cell_below hw' HQ.out.2.2.2
        go_simp
        with_reducible rfl
      rotate_left
      · simp only [Act.put, List.setIfInBounds_toArray, List.set_cons_zero, List.set_cons_succ]
        rfl
      refine rg_take (i := 2) (N := some 62) (v := ?_) (a' := ?_) (bm 22 7) rfl rfl (by kernel_rfl) (fun _ _ _ h => h) hHeld (Or.inl ⟨by rfl, ?_⟩) ?_ ?_
      rotate_left
      · intro w' hw'
        have q0 := pw_cell_below hw' HQ.out.1
        have q1 := pw_cell_below hw' HQ.out.2.1
        have q2 := pw_cell_below hw' HQ.out.2.2.1
        have q3 := pw_cell_below hw' HQ.out.2.2.2
        go_simp
        with_reducible rfl
      rotate_left
      · simp only [Act.put, List.setIfInBounds_toArray, List.set_cons_zero, List.set_cons_succ]
        rfl
      refine rg_take (i := 3) (N := some 63) (v := ?_) (a' := ?_) (bm 22 15) rfl rfl (by kernel_rfl) (fun _ _ _ h => h) hHeld (Or.inl ⟨by rfl, ?_⟩) ?_ ?_
      rotate_left
      · intro w' hw'
        have q0 := pw_cell_below hw' HQ.out.1
        have q1 := pw_cell_below hw' HQ.out.2.1
        have q2 := pw_cell_below hw' HQ.out.2.2.1
        have q3 := pw_cell_below hw' HQ.out.2.2.2
        go_simp
        with_reducible rfl
      rotate_left
      · simp only [Act.put, List.setIfInBounds_toArray, List.set_cons_zero, List.set_cons_succ]
        rfl
      refine rg_take (i := 4) (N := some 64) (v := ?_) (a' := ?_) (bm 22 31) rfl rfl (by kernel_rfl) (fun _ _ _ h => h) hHeld (Or.inl ⟨by rfl, ?_⟩) ?_ ?_
      rotate_left
      · intro w' hw'
        have q0 := pw_cell_below hw' HQ.out.1
        have q1 := pw_cell_below hw' HQ.out.2.1
        have q2 := pw_cell_below hw' HQ.out.2.2.1
        have q3 := pw_cell_below hw' HQ.out.2.2.2
        go_simp
        with_reducible rfl
      rotate_left
      · simp only [Act.put, List.setIfInBounds_toArray, List.set_cons_zero, List.set_cons_succ]
        rfl
      refine rg_take (i := 5) (N := some 65) (v := ?_) (a' := ?_) (bm 22 63) rfl rfl (by kernel_rfl) (fun _ _ _ h => h) hHeld (Or.inl ⟨by rfl, ?_⟩) ?_ ?_
      rotate_left
      · intro w' hw'
        have q0 := pw_cell_below hw' HQ.out.1
        have q1 := pw_cell_below hw' HQ.out.2.1
        have q2 := pw_cell_below hw' HQ.out.2.2.1
        have q3 := pw_cell_below hw' HQ.out.2.2.2
        go_simp
        with_reducible rfl
      rotate_left
      · simp only [Act.put, List.setIfInBounds_toArray, List.set_cons_zero, List.set_cons_succ]
        rfl
      refine rg_take (i := 6) (N := some 66) (v := ?_) (a' := ?_) (bm 22 127) rfl rfl (by kernel_rfl) (fun _ _ _ h => h) hHeld (Or.inl ⟨by rfl, ?_⟩) ?_ ?_
      rotate_left
      · intro w' hw'
        have q0 := pw_cell_below hw' HQ.out.1
        have q1 := pw_cell_below hw' HQ.out.2.1
        have q2 := pw_cell_below hw' HQ.out.2.2.1
        have q3 := pw_cell_below hw' HQ.out.2.2.2
        go_simp
        with_reducible rfl
      rotate_left
      · simp only [Act.put, List.setIfInBounds_toArray, List.set_cons_zero, List.set_cons_succ]
        rfl
      refine rg_take (i := 7) (N := some 67) (v := ?_) (a' := ?_) (bm 22 255) rfl rfl (by kernel_rfl) (fun _ _ _ h => h) hHeld (Or.inl ⟨by rfl, ?_⟩) ?_ ?_
      rotate_left
      · intro w' hw'
        have q0 := pw_cell_below hw' HQ.out.1
        have q1 := pw_cell_below hw' HQ.out.2.1
        have q2 := pw_cell_below hw' HQ.out.2.2.1
        have q3 := pw_cell_below hw' HQ.out.2.2.2
        go_simp
        with_reducible rfl
      rotate_left
      · simp only [Act.put, List.setIfInBounds_toArray, List.set_cons_zero, List.set_cons_succ]
        rfl
      refine rg_take (i := 8) (N := some 68) (v := ?_) (a' := ?_) (bm 22 511) rfl rfl (by kernel_rfl) (fun _ _ _ h => h) hHeld (Or.inl ⟨by rfl, ?_⟩) ?_ ?_
      rotate_left
      · intro w' hw'
        have q0 := pw_cell_below hw' HQ.out.1
        have q1 := pw_cell_below hw' HQ.out.2.1
        have q2 := pw_cell_below hw' HQ.out.2.2.1
        have q3 := pw_cell_below hw' HQ.out.2.2.2
        go_simp
        with_reducible rfl
      rotate_left
      · simp only [Act.put, List.setIfInBounds_toArray, List.set_cons_zero, List.set_cons_succ]
        rfl
      refine rg_take (i := 9) (N := some 69) (v := ?_) (a' := ?_) (bm 22 1023) rfl rfl (by kernel_rfl) (fun _ _ _ h => h) hHeld (Or.inl ⟨by rfl, ?_⟩) ?_ ?_
      rotate_left
      · intro w' hw'
        have q0 := pw_cell_below hw' HQ.out.1
        have q1 := pw_cell_below hw' HQ.out.2.1
        have q2 := pw_cell_below hw' HQ.out.2.2.1
        have q3 := pw_cell_below hw' HQ.out.2.2.2
        go_simp
        with_reducible rfl
      rotate_left
      · simp only [Act.put, List.setIfInBounds_toArray, List.set_cons_zero, List.set_cons_succ]
        rfl
      refine rg_take (i := 10) (N := some 70) (v := ?_) (a' := ?_) (bm 22 2047) rfl rfl (by kernel_rfl) (fun _ _ _ h => h) hHeld (Or.inl ⟨by rfl, ?_⟩) ?_ ?_
      rotate_left
      · intro w' hw'
        have q0 := pw_cell_below hw' HQ.out.1
        have q1 := pw_cell_below hw' HQ.out.2.1
        have q2 := pw_cell_below hw' HQ.out.2.2.1
        have q3 := pw_cell_below hw' HQ.out.2.2.2
        go_simp
        with_reducible rfl
      rotate_left
      · simp only [Act.put, List.setIfInBounds_toArray, List.set_cons_zero, List.set_cons_succ]
        rfl
      refine rg_take (i := 11) (N := some 71) (v := ?_) (a' := ?_) (bm 22 4095) rfl rfl (by kernel_rfl) (fun _ _ _ h => h) hHeld (Or.inl ⟨by rfl, ?_⟩) ?_ ?_
      rotate_left
      · intro w' hw'
        have q0 := pw_cell_below hw' HQ.out.1
        have q1 := pw_cell_below hw' HQ.out.2.1
        have q2 := pw_cell_below hw' HQ.out.2.2.1
        have q3 := pw_cell_below hw' HQ.out.2.2.2
        go_simp
        with_reducible rfl
      rotate_left
      · simp only [Act.put, List.setIfInBounds_toArray, List.set_cons_zero, List.set_cons_succ]
        rfl
      refine rg_take (i := 12) (N := some 72) (v := ?_) (a' := ?_) (bm 22 8191) rfl rfl (by kernel_rfl) (fun _ _ _ h => h) hHeld (Or.inl ⟨by rfl, ?_⟩) ?_ ?_
      rotate_left
      · intro w' hw'
        have q0 := pw_cell_below hw' HQ.out.1
        have q1 := pw_cell_below hw' HQ.out.2.1
        have q2 := pw_cell_below hw' HQ.out.2.2.1
        have q3 := pw_cell_below hw' HQ.out.2.2.2
        go_simp
        with_reducible rfl
      rotate_left
      · simp only [Act.put, List.setIfInBounds_toArray, List.set_cons_zero, List.set_cons_succ]
        rfl
      refine rg_take (i := 13) (N := some 73) (v := ?_) (a' := ?_) (bm 22 16383) rfl rfl (by kernel_rfl) (fun _ _ _ h => h) hHeld (Or.inl ⟨by rfl, ?_⟩) ?_ ?_
      rotate_left
      · intro w' hw'
        have q0 := pw_cell_below hw' HQ.out.1
        have q1 := pw_cell_below hw' HQ.out.2.1
        have q2 := pw_cell_below hw' HQ.out.2.2.1
        have q3 := pw_cell_below hw' HQ.out.2.2.2
        go_simp
        with_reducible rfl
      rotate_left
      · simp only [Act.put, List.setIfInBounds_toArray, List.set_cons_zero, List.set_cons_succ]
        rfl
      refine rg_take (i := 14) (N := some 74) (v := ?_) (a' := ?_) (bm 22 32767) rfl rfl (by kernel_rfl) (fun _ _ _ h => h) hHeld (Or.inl ⟨by rfl, ?_⟩) ?_ ?_
      rotate_left
      · intro w' hw'
        have q0 := pw_cell_below hw' HQ.out.1
        have q1 := pw_cell_below hw' HQ.out.2.1
        have q2 := pw_cell_below hw' HQ.out.2.2.1
        have q3 := pw_cell_below hw' HQ.out.2.2.2
        go_simp
        with_reducible rfl
      rotate_left
      · simp only [Act.put, List.setIfInBounds_toArray, List.set_cons_zero, List.set_cons_succ]
        rfl
      refine rg_take (i := 15) (N := some 75) (v := ?_) (a' := ?_) (bm 22 65535) rfl rfl (by kernel_rfl) (fun _ _ _ h => h) hHeld (Or.inl ⟨by rfl, ?_⟩) ?_ ?_
      rotate_left
      · intro w' hw'
        have q0 := pw_cell_below hw' HQ.out.1
        have q1 := pw_cell_below hw' HQ.out.2.1
        have q2 := pw_cell_below hw' HQ.out.2.2.1
        have q3 := pw_cell_below hw' HQ.out.2.2.2
        go_simp
        with_reducible rfl
      rotate_left
      · simp only [Act.put, List.setIfInBounds_toArray, List.set_cons_zero, List.set_cons_succ]
        rfl
      refine rg_ready [16] (by kernel_rfl) (by simp) ?_
      refine rg_one (i := 16) (N := some 76) (bm 22 131071) rfl rfl (by kernel_rfl) (fun K hK => ?_) rg_nil
      have HD11 := Aside0.mk (hwd11.out ▸ HS10b.out.drew)
      go_simp
      go_at_call 12
      with_reducible refine (hstDoN x.f0 HD11.out HA1.out HA2.out HA3.out hl5 hlb.1 hlb.2.1 hlb.2.2 hlg6 HRO.out HANS.out HRS.out HLG.out).mono ?_
      rintro e wx16r11 ⟨rfl, hs⟩
      have HS11 := Aside0.mk hs
      have hnew := hs.bel
      clear hs
      go_wp2_with fail
      refine hK.out _ _ hnew ?_
      clear hK K
      refine rg_norm (a' := ?_) ?_ ?_
      rotate_left
      · simp only [Act.put, List.setIfInBounds_toArray, List.set_cons_zero, List.set_cons_succ]
        rfl
      clear hHeld
      have hHeld := hnew
      clear hnew
      refine rg_take (i := 17) (N := some 59) (v := ?_) (a' := ?_) (bm 22 262143) rfl rfl (by kernel_rfl) (fun _ _ _ h => h) hHeld (Or.inl ⟨by rfl, ?_⟩) ?_ ?_
      rotate_left
      · intro w' hw'
        have q0 := pw_cell_below hw' HQ.out.1
        have q1 := pw_cell_below hw' HQ.out.2.1
        have q2 := pw_cell_below hw' HQ.out.2.2.1
        have q3 := pw_cell_below hw' HQ.out.2.2.2
        go_simp
        with_reducible rfl
      rotate_left
      · simp only [Act.put, List.setIfInBounds_toArray, List.set_cons_zero, List.set_cons_succ]
        rfl
      refine rg_take (i := 18) (N := some 77) (v := ?_) (a' := ?_) (bm 22 524287) rfl rfl (by kernel_rfl) (fun _ _ _ h => h) hHeld (Or.inl ⟨by rfl, ?_⟩) ?_ ?_
      rotate_left
      · intro w' hw'
        have q0 := pw_cell_below hw' HQ.out.1
        have q1 := pw_cell_below hw' HQ.out.2.1
        have q2 := pw_cell_below hw' HQ.out.2.2.1
        have q3 := pw_cell_below hw' HQ.out.2.2.2
        go_simp
        with_reducible rfl
      rotate_left
      · simp only [Act.put, List.setIfInBounds_toArray, List.set_cons_zero, List.set_cons_succ]
        rfl
      refine rg_take (i := 19) (N := some 78) (v := ?_) (a' := ?_) (bm 22 1048575) rfl rfl (by kernel_rfl) (fun _ _ _ h => h) hHeld (Or.inl ⟨by rfl, ?_⟩) ?_ ?_
      rotate_left
      · intro w' hw'
        have q0 := pw_cell_below hw' HQ.out.1
        have q1 := pw_cell_below hw' HQ.out.2.1
        have q2 := pw_cell_below hw' HQ.out.2.2.1
        have q3 := pw_cell_below hw' HQ.out.2.2.2
        go_simp
        with_reducible rfl
      rotate_left
      · simp only [Act.put, List.setIfInBounds_toArray, List.set_cons_zero, List.set_cons_succ]
        rfl
      refine rg_take (i := 20) (N := some 12) (v := ?_) (a' := ?_) (bm 22 2097151) rfl rfl (by kernel_rfl) (fun _ _ _ h => h) hHeld (Or.inl ⟨by rfl, ?_⟩) ?_ ?_
      rotate_left
      · intro w' hw'
        have q0 := pw_cell_below hw' HQ.out.1
        have q1 := pw_cell_below hw' HQ.out.2.1
        have q2 := pw_cell_below hw' HQ.out.2.2.1
        have q3 := pw_cell_below hw' HQ.out.2.2.2
        go_simp
        with_reducible rfl
      rotate_left
      · simp only [Act.put, List.setIfInBounds_toArray, List.set_cons_zero, List.set_cons_succ]
        rfl
      refine rg_take (i := 21) (N := some 13) (v := ?_) (a' := ?_) (bm 22 4194303) rfl rfl (by kernel_rfl) (fun _ _ _ h => h) hHeld (Or.inl ⟨by rfl, ?_⟩) ?_ ?_
      rotate_left
      · intro w' hw'
        have q0 := pw_cell_below hw' HQ.out.1
        have q1 := pw_cell_below hw' HQ.out.2.1
        have q2 := pw_cell_below hw' HQ.out.2.2.1
        have q3 := pw_cell_below hw' HQ.out.2.2.2
        go_simp
        with_reducible rfl
      rotate_left
      · simp only [Act.put, List.setIfInBounds_toArray, List.set_cons_zero, List.set_cons_succ]
        rfl
      refine rg_done (by kernel_rfl) ?_
      go_wp2
      · rename_i hne
        have ht : t ≠ 11 := by simpa using hne
        rcases HFS.out with ⟨h1, _⟩ | ⟨_, h2, h3, h4⟩
        · exact absurd h1 ht
        · refine ⟨⟨i + 1, rs', lg', m + 1, by simp, by simp, by omega, by omega, ⟨by rw [h4, List.length_append, HM.out]; rfl⟩, ⟨by rw [h2, HRL.out]; omega⟩, ⟨h3⟩, ⟨fun y hy => ?_⟩, ⟨HS11.out.swap⟩⟩, by simp [intOf]; omega⟩
          rw [h4] at hy
          rcases List.mem_append.1 hy with hy | hy
          · exact HSZ.out y hy
          · rw [List.mem_singleton.1 hy]
            exact ⟨hlb.2.1, (show (0 : Nat) ≤ 1000000 by decide)⟩
      · rename_i hne
        have ht : t = 11 := by simpa using hne
        rcases HFS.out with ⟨_, h2, h3⟩ | ⟨h1, _⟩
        · subst h2 h3
          exact ⟨⟨i + 1, _, _, m, by simp, rfl, by omega, by omega, HM, HRL, HRO, HSZ, ⟨HS11.out.swap⟩⟩, by simp [intOf]; omega⟩
        · exact absurd ht h1
    · have e1 : decide ((i : Int) < (n1 : Int)) = false := decide_eq_false (by omega)
      have e2 : decide (i < n1) = false := decide_eq_false hlt
      have hm40 : m ≤ 40 := by omega
      obtain ⟨k, hk⟩ : ∃ k, rs.length = k := ⟨_, rfl⟩
      have HK := Aside0.mk hk
      have hk0 : k = n0 - m := by rw [← hk]; exact HRL.out
      have hn040 : n0 ≤ 40 := by omega
      have hw1 : IntKind.i64.wrap ((n0 : Int) - (m : Int)) = (n0 : Int) - (m : Int) := by rw [IntKind.wrap_i64]; omega
      have HLG1 := Aside0.mk (fun (W : World) (L : List As) (p : Nat) (hS : SB w W (HO p rs lg :: L)) => (show Calls Try.prog 15 #[.pointer (some ⟨p, 0, none⟩)] W fun e w' => ∃ A c, e = .returned (.slice A m c) ∧ m ≤ c ∧ SB w w' (CLs (.slice A m c) lg :: HO p rs lg :: L) from by
        have h1 := hstLog hS (by rw [HM.out]; omega) HSZ.out
        rw [HM.out] at h1
        exact h1))
      have HTL := Aside0.mk (show (lg.map th).length = m by rw [List.length_map, HM.out])
      clear hk HRL
      go_wp2_with (first
        | (go_at_call 12; (with_reducible refine (hstDoNil 0 (.int .i64 0) (.slice none 0 0) none none none none 0 0 0 0 _).mono ?_); rintro e w8 ⟨rfl, hbl⟩; have H0 := Aside0.mk (HR.out.below hbl); clear hbl)
        | (go_at_call 15; (with_reducible refine (HLG1.out _ _ _ (H5.out.pick4 [3, 1])).mono ?_); rintro e w15 ⟨C1, k1, rfl, hc1, hs⟩; have H6 := Aside0.mk hs; clear hs)
        | (go_at_call 15; (with_reducible refine (HLG1.out _ _ _ (H2.out.pick3 [2, 0, 1])).mono ?_); rintro e w12 ⟨C2, k2, rfl, hc2, hs⟩; have H3 := Aside0.mk hs; clear hs)
        | (go_at_call 15; (with_reducible refine (HLG1.out _ _ _ H0.out).mono ?_); rintro e w10 ⟨C3, k3, rfl, hc3, hs⟩; have H1 := Aside0.mk hs; clear hs)
        | (go_at_call 15; (with_reducible refine (hstLogNil _).mono ?_); rintro e w18 ⟨rfl, hbl⟩; have H8 := Aside0.mk (H7.out.below hbl); clear hbl)
        | (go_at_call 14; (with_reducible refine (hTheirs H3.out HM.out hc2 (by omega)).mono ?_); rintro e w13 ⟨E1, k4, rfl, hc4, hs⟩; have hr1 := hs.ow; have hr2 := (hs.pick3 [2]).ow; have HE1 := Aside0.mk hr1; have HE2 := Aside0.mk hr2; have H4 := Aside0.mk hs; clear hs hr1 hr2)
        | (go_at_call 14; (with_reducible refine (hTheirs H1.out HM.out hc3 (by omega)).mono ?_); rintro e w11 ⟨E2, k5, rfl, hc5, hs⟩; have H2 := Aside0.mk hs; clear hs)
        | (go_at_call 13; go_must ((with_reducible refine (hSame H4.out _ _ _ _ _ (lg.map th) HTL.out HE2.out HE1.out (by omega) (sized_th HSZ.out)).mono ?_); rintro e w14 ⟨rfl, hs⟩; have H5 := Aside0.mk hs; clear hs))
        | (go_at_call 16; (with_reducible refine (hstLeft HK.out (H6.out.pick2 [1])).mono ?_); rintro e w16 ⟨rfl, hs⟩; have H7 := Aside0.mk hs; clear hs)
        | (go_at_call 16; (with_reducible refine (hstLeftNil _).mono ?_); rintro e w19 ⟨rfl, hbl⟩; have H9 := Aside0.mk (H8.out.below hbl); clear hbl))
      all_goals first
        | (go_ret; exact ⟨rfl, H9.out.bel⟩)
        | (exfalso; omega)
def avocetlaw16_HostTwice.f (l0 : List (S82)) (l1 : List (S40)) : Option (Bool) := if ∀ x ∈ l0, okA x then some true else none
theorem avocetlaw16_HostTwice.calls (A0 : Option Addr) (c0 : Nat) (l0 : List (S82)) (A1 : Option Addr) (c1 : Nat) (l1 : List (S40)) (r : Bool) (w : World) (hr0 : Kd.C k82 w A0 l0.length l0) (hc0 : l0.length ≤ c0) (hr1 : Kd.C k40 w A1 l1.length l1) (hc1 : l1.length ≤ c1) (hr_ : r = true) (h : avocetlaw16_HostTwice.f l0 l1 = some r) :
    Calls Try.prog 3 #[.slice A0 l0.length c0, .slice A1 l1.length c1] w fun e w' => e = .returned (.bool r) ∧ Below w.heap.size w w' := by
  subst hr_
  by_cases hn : ∀ x ∈ l0, okA x
  · exact hostTwice A0 A1 c0 c1 l0 l1 w hr0 hc0 hr1 hc1 hn
  · unfold avocetlaw16_HostTwice.f at h
    rw [if_neg hn] at h
    simp at h
end Go.Proofs.Ytbjglicdamenhaa.G
