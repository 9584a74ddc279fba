/- The contract of unicode/utf8.Valid, for any bytes, after the library's own walk of ValidString. -/
import Derived.Test.YtoeknjmdlmhajaaDoorGlob
namespace Go.Proofs.YtoeknjmdlmhajaaDoor.G
open Go.RowKit Go.Proofs.YtoeknjmdlmhajaaDoorW.PrintWords Go.Proofs.YtoeknjmdlmhajaaDoorW.PrintLast Go.Proofs.YtoeknjmdlmhajaaDoorW.PrintMore
set_option linter.unusedVariables false
set_option linter.unusedSimpArgs false
set_option maxHeartbeats 16000000 in
set_option maxRecDepth 1000000 in
theorem u8_valid (A : Option Addr) (c : Nat) (s : ByteArray) (w : World) (hG : Globs w) (hr : BRow w A s) (hs : s.size ≤ 9223372036854775807) (hc : s.size ≤ c) :
    Calls Tryd.prog 46 #[.slice A s.size c] w fun e w' => e = .returned (.bool (Lib.validD s.data.toList)) ∧ Below w.heap.size w w' := by
  have HR := Aside0.mk hr
  have HG := Aside0.mk hG
  clear hr hG
  obtain ⟨ANS, hANS⟩ : ∃ ANS, Lib.validD s.data.toList = ANS := ⟨_, rfl⟩
  rw [hANS]
  have HANS := Aside0.mk hANS
  clear hANS
  go_enter Tryd.func46, Tryd.ntmps46
  go_wp2
  go_loopg [0] (s.size + 1) (fun gk s0 wx => Below w.heap.size w wx ∧ ∃ (t : ByteArray) (At : Option Addr), s0 = .slice At t.size t.size ∧ BRow w At t ∧ Lib.validD t.data.toList = ANS ∧ t.size < gk ∧ t.size ≤ 9223372036854775807)
  case atStart => exact ⟨Below.refl _ _, s, A, rfl, HR.out, HANS.out, by omega, hs⟩
  case round =>
    obtain ⟨hbw, t, At, rfl, hrow, hv, hg, hts⟩ := hrel
    clear HANS HR
    have hTr := HG.out.below hbw
    by_cases h0 : 0 < t.size
    · obtain ⟨g', rfl⟩ : ∃ g', gk = g' + 1 := ⟨gk - 1, by omega⟩
      have h0z : (0 : Int) < (t.size : Int) := by omega
      obtain ⟨ad, rfl, hx0c⟩ := hrow 0 h0
      rw [show ad.add 0 = ad from by simp [Addr.add]] at hx0c
      obtain ⟨x0, hx0⟩ : ∃ x0, t.get! 0 = x0 := ⟨_, rfl⟩
      rw [hx0] at hx0c
      replace hx0c := pw_cell_below hbw hx0c
      have hx0lt : x0.toNat < 256 := x0.toNat_lt
      by_cases hasc : x0.toNat < 128
      · have hascz : (x0.toNat : Int) < 128 := by omega
        have a1 : Lib.Asc t 1 := Lib.asc_one t h0 (by rw [hx0]; exact hasc)
        obtain ⟨A1, hcut1, hr1⟩ := BRow.cut (some ad) t 1 1 rfl (by omega) hrow
        obtain ⟨t1, ht1⟩ : ∃ t1, t.extract 1 t.size = t1 := ⟨_, rfl⟩
        rw [ht1] at hcut1 hr1
        have z1 : t1.size + 1 = t.size := by rw [← ht1, Lib.ext_size]; omega
        have v1 : Lib.validD t1.data.toList = ANS := by rw [← ht1, Lib.valid_skip t 1 a1]; exact hv
        clear hTr HG hv a1 hrow ht1
        by_cases c8 : 8 < t1.size
        · as_aux_lemma =>
            have c8z : (8 : Int) < (t1.size : Int) := by omega
            obtain ⟨ad1, rfl, _⟩ := hr1 0 (by omega)
            have hwr := hbw
            obtain ⟨N1, hN1⟩ : ∃ N1, Lib.leNat [t1.get! 0, t1.get! 1, t1.get! 2, t1.get! 3, t1.get! 4, t1.get! 5, t1.get! 6, t1.get! 7] = N1 := ⟨_, rfl⟩
            have lN1 : N1 < 18446744073709551616 := hN1 ▸ Lib.word_lt t1
            have cN1 : ∀ q, Calls Tryd.prog 49 #[.slice (some ad1) t1.size t1.size] (wr.drewN q) fun e w' => e = .returned (.int .u64 N1) ∧ ∃ q', w' = (wr.drewN q).drewN q' := fun q => by rw [← hN1]; exact u8_word ad1 t1.size t1.size t1 _ (by omega) (BRow.cells (hr1.below (below_drewNv hwr q)) (by omega))
            have kN1 := Lib.word_asc t1 (by omega)
            rw [hN1] at kN1
            have cN1' := cN1 0
            rw [World.drewN_zero] at cN1'
            clear cN1
            have hand1 : bits .and .u64 (N1 : Int) 9259542123273814144 = ((N1 &&& 9259542123273814144 : Nat) : Int) := u64_and_nat N1 9259542123273814144 lN1 (by omega)
            obtain ⟨Z1, hZ1⟩ : ∃ Z1, N1 &&& 9259542123273814144 = Z1 := ⟨_, rfl⟩
            rw [hZ1] at hand1 kN1
            obtain ⟨A2, hcut2, hr2⟩ := BRow.cut (some ad1) t1 8 8 rfl (by omega) hr1
            obtain ⟨t2, ht2⟩ : ∃ t2, t1.extract 8 t1.size = t2 := ⟨_, rfl⟩
            rw [ht2] at hcut2 hr2
            have z2 : t2.size + 8 = t1.size := by rw [← ht2, Lib.ext_size]; omega
            by_cases hz1 : Z1 = 0
            · have hz1b : ((Z1 : Int) == 0) = true := by simp [hz1]
              have a8 : Lib.Asc t1 8 := kN1.1 hz1
              have v2 : Lib.validD t2.data.toList = ANS := by rw [← ht2, Lib.valid_skip t1 8 a8]; exact v1
              clear kN1 a8 v1 ht2 hN1 lN1 hZ1 hz1
              go_wp2_with (go_at_call 49; (with_reducible refine cN1'.mono ?_); rintro e W1 ⟨rfl, q1, rfl⟩)
              have hwq : Below w.heap.size w (wr.drewN q1) := below_drewNv hbw q1
              generalize wr.drewN q1 = wq at hwq ⊢
              clear cN1' hbw hx0c hwr hcut1 hcut2 hand1
              by_cases c16 : 16 < t2.size
              · have c16z : (16 : Int) < (t2.size : Int) := by omega
                obtain ⟨ad2, rfl, _⟩ := hr2 0 (by omega)
                obtain ⟨A2b, hcut2b, hr2b⟩ := BRow.cut (some ad2) t2 8 8 rfl (by omega) hr2
                obtain ⟨t2b, ht2b⟩ : ∃ t2b, t2.extract 8 t2.size = t2b := ⟨_, rfl⟩
                rw [ht2b] at hcut2b hr2b
                have z2b : t2b.size + 8 = t2.size := by rw [← ht2b, Lib.ext_size]; omega
                obtain ⟨ad2b, rfl, _⟩ := hr2b 0 (by omega)
                obtain ⟨N2, hN2⟩ : ∃ N2, Lib.leNat [t2.get! 0, t2.get! 1, t2.get! 2, t2.get! 3, t2.get! 4, t2.get! 5, t2.get! 6, t2.get! 7] = N2 := ⟨_, rfl⟩
                have lN2 : N2 < 18446744073709551616 := hN2 ▸ Lib.word_lt t2
                have cN2 : ∀ q, Calls Tryd.prog 49 #[.slice (some ad2) t2.size t2.size] (wq.drewN q) fun e w' => e = .returned (.int .u64 N2) ∧ ∃ q', w' = (wq.drewN q).drewN q' := fun q => by rw [← hN2]; exact u8_word ad2 t2.size t2.size t2 _ (by omega) (BRow.cells (hr2.below (below_drewNv hwq q)) (by omega))
                have kN2 := Lib.word_asc t2 (by omega)
                rw [hN2] at kN2
                obtain ⟨N3, hN3⟩ : ∃ N3, Lib.leNat [t2b.get! 0, t2b.get! 1, t2b.get! 2, t2b.get! 3, t2b.get! 4, t2b.get! 5, t2b.get! 6, t2b.get! 7] = N3 := ⟨_, rfl⟩
                have lN3 : N3 < 18446744073709551616 := hN3 ▸ Lib.word_lt t2b
                have cN3 : ∀ q, Calls Tryd.prog 49 #[.slice (some ad2b) t2b.size t2b.size] (wq.drewN q) fun e w' => e = .returned (.int .u64 N3) ∧ ∃ q', w' = (wq.drewN q).drewN q' := fun q => by rw [← hN3]; exact u8_word ad2b t2b.size t2b.size t2b _ (by omega) (BRow.cells (hr2b.below (below_drewNv hwq q)) (by omega))
                have kN3 := Lib.word_asc t2b (by omega)
                rw [hN3] at kN3
                have hor2 : bits .or .u64 (N2 : Int) (N3 : Int) = ((N2 ||| N3 : Nat) : Int) := u64_or_nat N2 N3 lN2 lN3
                have lor2 : N2 ||| N3 < 18446744073709551616 := Nat.or_lt_two_pow (n := 64) lN2 lN3
                have hand2 : bits .and .u64 ((N2 ||| N3 : Nat) : Int) 9259542123273814144 = (((N2 ||| N3) &&& 9259542123273814144 : Nat) : Int) := u64_and_nat _ 9259542123273814144 lor2 (by omega)
                have k2 : (N2 ||| N3) &&& 9259542123273814144 = 0 → Lib.Asc t2 16 := fun h0' => by
                  obtain ⟨e1, e2⟩ := (Lib.or_mask N2 N3 _).1 h0'
                  exact Lib.asc_add t2 8 8 (kN2.1 e1) (by rw [ht2b]; exact kN3.1 e2)
                obtain ⟨O2, hO2⟩ : ∃ O2, N2 ||| N3 = O2 := ⟨_, rfl⟩
                rw [hO2] at hor2 hand2 k2
                obtain ⟨Z2, hZ2⟩ : ∃ Z2, O2 &&& 9259542123273814144 = Z2 := ⟨_, rfl⟩
                rw [hZ2] at hand2 k2
                clear kN2 kN3 lor2 hO2 hZ2 ht2b hN2 hN3 lN2 lN3 hr2b
                obtain ⟨A3, hcut3, hr3⟩ := BRow.cut (some ad2) t2 16 16 rfl (by omega) hr2
                obtain ⟨t3, ht3⟩ : ∃ t3, t2.extract 16 t2.size = t3 := ⟨_, rfl⟩
                rw [ht3] at hcut3 hr3
                have z3 : t3.size + 16 = t2.size := by rw [← ht3, Lib.ext_size]; omega
                by_cases hz2 : Z2 = 0
                · as_aux_lemma =>
                    have hz2b : ((Z2 : Int) == 0) = true := by simp [hz2]
                    have v3 : Lib.validD t3.data.toList = ANS := by rw [← ht3, Lib.valid_skip t2 16 (k2 hz2)]; exact v2
                    clear k2 v2 ht3 hz2 hr2
                    go_quiet ((first | (go_at_call 49; with_reducible exact Calls.quiet_of (cN2 _)) | (go_at_call 49; with_reducible exact Calls.quiet_of (cN3 _))))
                    have hwq2 : Below w.heap.size w (wq.drewN nq) := below_drewNv hwq nq
                    generalize wq.drewN nq = wq2 at hwq2 ⊢
                    clear cN2 cN3 hwq hcut2b
                    go_wp2
                    clear hcut3
                    go_loopg [0] (t3.size + 1) (fun g2 s0 wx => Below w.heap.size w wx ∧ ∃ (u : ByteArray) (Au : Option Addr), s0 = .slice Au u.size u.size ∧ BRow w Au u ∧ Lib.validD u.data.toList = ANS ∧ u.size < g2 ∧ u.size ≤ t3.size)
                    case atStart => exact ⟨hwq2, t3, A3, rfl, hr3, v3, by omega, Nat.le_refl _⟩
                    case round =>
                      obtain ⟨hwr, u, Au, rfl, hru, vu, hgu, hut⟩ := hrel
                      clear hwq2 hr3 v3
                      by_cases c32 : 32 < u.size
                      · as_aux_lemma =>
                          obtain ⟨g3, rfl⟩ : ∃ g3, gk = g3 + 1 := ⟨gk - 1, by omega⟩
                          have c32z : (32 : Int) < (u.size : Int) := by omega
                          obtain ⟨au, rfl, _⟩ := hru 0 (by omega)
                          obtain ⟨Ab, hcutb, hrb⟩ := BRow.cut (some au) u 8 8 rfl (by omega) hru
                          obtain ⟨ub, hub⟩ : ∃ ub, u.extract 8 u.size = ub := ⟨_, rfl⟩
                          rw [hub] at hcutb hrb
                          have zub : ub.size + 8 = u.size := by rw [← hub, Lib.ext_size]; omega
                          obtain ⟨ab, rfl, _⟩ := hrb 0 (by omega)
                          obtain ⟨Ac, hcutc, hrc⟩ := BRow.cut (some au) u 16 16 rfl (by omega) hru
                          obtain ⟨uc, huc⟩ : ∃ uc, u.extract 16 u.size = uc := ⟨_, rfl⟩
                          rw [huc] at hcutc hrc
                          have zuc : uc.size + 16 = u.size := by rw [← huc, Lib.ext_size]; omega
                          obtain ⟨ac, rfl, _⟩ := hrc 0 (by omega)
                          obtain ⟨Ad, hcutd, hrd⟩ := BRow.cut (some au) u 24 24 rfl (by omega) hru
                          obtain ⟨ud, hud⟩ : ∃ ud, u.extract 24 u.size = ud := ⟨_, rfl⟩
                          rw [hud] at hcutd hrd
                          have zud : ud.size + 24 = u.size := by rw [← hud, Lib.ext_size]; omega
                          obtain ⟨adq, rfl, _⟩ := hrd 0 (by omega)
                          obtain ⟨B0, hB0⟩ : ∃ B0, Lib.leNat [u.get! 0, u.get! 1, u.get! 2, u.get! 3, u.get! 4, u.get! 5, u.get! 6, u.get! 7] = B0 := ⟨_, rfl⟩
                          have lB0 : B0 < 18446744073709551616 := hB0 ▸ Lib.word_lt u
                          have cB0 : ∀ q, Calls Tryd.prog 49 #[.slice (some au) u.size u.size] (wr.drewN q) fun e w' => e = .returned (.int .u64 B0) ∧ ∃ q', w' = (wr.drewN q).drewN q' := fun q => by rw [← hB0]; exact u8_word au u.size u.size u _ (by omega) (BRow.cells (hru.below (below_drewNv hwr q)) (by omega))
                          have kB0 := Lib.word_asc u (by omega)
                          rw [hB0] at kB0
                          obtain ⟨B1, hB1⟩ : ∃ B1, Lib.leNat [ub.get! 0, ub.get! 1, ub.get! 2, ub.get! 3, ub.get! 4, ub.get! 5, ub.get! 6, ub.get! 7] = B1 := ⟨_, rfl⟩
                          have lB1 : B1 < 18446744073709551616 := hB1 ▸ Lib.word_lt ub
                          have cB1 : ∀ q, Calls Tryd.prog 49 #[.slice (some ab) ub.size ub.size] (wr.drewN q) fun e w' => e = .returned (.int .u64 B1) ∧ ∃ q', w' = (wr.drewN q).drewN q' := fun q => by rw [← hB1]; exact u8_word ab ub.size ub.size ub _ (by omega) (BRow.cells (hrb.below (below_drewNv hwr q)) (by omega))
                          have kB1 := Lib.word_asc ub (by omega)
                          rw [hB1] at kB1
                          obtain ⟨B2, hB2⟩ : ∃ B2, Lib.leNat [uc.get! 0, uc.get! 1, uc.get! 2, uc.get! 3, uc.get! 4, uc.get! 5, uc.get! 6, uc.get! 7] = B2 := ⟨_, rfl⟩
                          have lB2 : B2 < 18446744073709551616 := hB2 ▸ Lib.word_lt uc
                          have cB2 : ∀ q, Calls Tryd.prog 49 #[.slice (some ac) uc.size uc.size] (wr.drewN q) fun e w' => e = .returned (.int .u64 B2) ∧ ∃ q', w' = (wr.drewN q).drewN q' := fun q => by rw [← hB2]; exact u8_word ac uc.size uc.size uc _ (by omega) (BRow.cells (hrc.below (below_drewNv hwr q)) (by omega))
                          have kB2 := Lib.word_asc uc (by omega)
                          rw [hB2] at kB2
                          obtain ⟨B3, hB3⟩ : ∃ B3, Lib.leNat [ud.get! 0, ud.get! 1, ud.get! 2, ud.get! 3, ud.get! 4, ud.get! 5, ud.get! 6, ud.get! 7] = B3 := ⟨_, rfl⟩
                          have lB3 : B3 < 18446744073709551616 := hB3 ▸ Lib.word_lt ud
                          have cB3 : ∀ q, Calls Tryd.prog 49 #[.slice (some adq) ud.size ud.size] (wr.drewN q) fun e w' => e = .returned (.int .u64 B3) ∧ ∃ q', w' = (wr.drewN q).drewN q' := fun q => by rw [← hB3]; exact u8_word adq ud.size ud.size ud _ (by omega) (BRow.cells (hrd.below (below_drewNv hwr q)) (by omega))
                          have kB3 := Lib.word_asc ud (by omega)
                          rw [hB3] at kB3
                          have ho1 : bits .or .u64 (B0 : Int) (B1 : Int) = ((B0 ||| B1 : Nat) : Int) := u64_or_nat B0 B1 lB0 lB1
                          have ho2 : bits .or .u64 (B2 : Int) (B3 : Int) = ((B2 ||| B3 : Nat) : Int) := u64_or_nat B2 B3 lB2 lB3
                          have lo1 : B0 ||| B1 < 18446744073709551616 := Nat.or_lt_two_pow (n := 64) lB0 lB1
                          have lo2 : B2 ||| B3 < 18446744073709551616 := Nat.or_lt_two_pow (n := 64) lB2 lB3
                          have ho3 : bits .or .u64 ((B0 ||| B1 : Nat) : Int) ((B2 ||| B3 : Nat) : Int) = (((B0 ||| B1) ||| (B2 ||| B3) : Nat) : Int) := u64_or_nat _ _ lo1 lo2
                          have lo3 : (B0 ||| B1) ||| (B2 ||| B3) < 18446744073709551616 := Nat.or_lt_two_pow (n := 64) lo1 lo2
                          have hand3 : bits .and .u64 (((B0 ||| B1) ||| (B2 ||| B3) : Nat) : Int) 9259542123273814144 = ((((B0 ||| B1) ||| (B2 ||| B3)) &&& 9259542123273814144 : Nat) : Int) := u64_and_nat _ 9259542123273814144 lo3 (by omega)
                          have k3 : ((B0 ||| B1) ||| (B2 ||| B3)) &&& 9259542123273814144 = 0 → Lib.Asc u 32 := fun h0' => by
                            obtain ⟨e01, e23⟩ := (Lib.or_mask _ _ _).1 h0'
                            obtain ⟨e0, e1⟩ := (Lib.or_mask _ _ _).1 e01
                            obtain ⟨e2, e3⟩ := (Lib.or_mask _ _ _).1 e23
                            have s16 : Lib.Asc u 16 := Lib.asc_add u 8 8 (kB0.1 e0) (by rw [hub]; exact kB1.1 e1)
                            have s24 : Lib.Asc u 24 := Lib.asc_add u 16 8 s16 (by rw [huc]; exact kB2.1 e2)
                            exact Lib.asc_add u 24 8 s24 (by rw [hud]; exact kB3.1 e3)
                          obtain ⟨P1, hP1⟩ : ∃ P1, B0 ||| B1 = P1 := ⟨_, rfl⟩
                          obtain ⟨P2, hP2⟩ : ∃ P2, B2 ||| B3 = P2 := ⟨_, rfl⟩
                          rw [hP1, hP2] at ho3 hand3 k3
                          rw [hP1] at ho1
                          rw [hP2] at ho2
                          obtain ⟨P3, hP3⟩ : ∃ P3, P1 ||| P2 = P3 := ⟨_, rfl⟩
                          rw [hP3] at ho3 hand3 k3
                          obtain ⟨Z3, hZ3⟩ : ∃ Z3, P3 &&& 9259542123273814144 = Z3 := ⟨_, rfl⟩
                          rw [hZ3] at hand3 k3
                          clear kB0 kB1 kB2 kB3 lo1 lo2 lo3 hP1 hP2 hP3 hZ3 hub huc hud hB0 hB1 hB2 hB3 lB0 lB1 lB2 lB3 hrb hrc hrd
                          obtain ⟨A4, hcut4, hr4⟩ := BRow.cut (some au) u 32 32 rfl (by omega) hru
                          obtain ⟨u2, hu2⟩ : ∃ u2, u.extract 32 u.size = u2 := ⟨_, rfl⟩
                          rw [hu2] at hcut4 hr4
                          have zu2 : u2.size + 32 = u.size := by rw [← hu2, Lib.ext_size]; omega
                          by_cases hz3 : Z3 = 0
                          · as_aux_lemma =>
                              have hz3b : ((Z3 : Int) == 0) = true := by simp [hz3]
                              have vu2 : Lib.validD u2.data.toList = ANS := by rw [← hu2, Lib.valid_skip u 32 (k3 hz3)]; exact vu
                              clear k3 hu2 hz3 hru vu
                              go_wp2_with fail
                              go_quiet ((first | (go_at_call 49; with_reducible exact Calls.quiet_of (cB0 _)) | (go_at_call 49; with_reducible exact Calls.quiet_of (cB1 _)) | (go_at_call 49; with_reducible exact Calls.quiet_of (cB2 _)) | (go_at_call 49; with_reducible exact Calls.quiet_of (cB3 _))))
                              clear cB0 cB1 cB2 cB3
                              go_wp2
                              go_roundg g3
                              case measure => omega
                              case rel => exact ⟨below_drewNv hwr nq, u2, A4, rfl, hr4, vu2, by omega, by omega⟩
                          · have hz3b : ((Z3 : Int) == 0) = false := by simp; omega
                            clear k3 hu2 hz3 hr4 hcut4
                            go_wp2_with fail
                            go_quiet ((first | (go_at_call 49; with_reducible exact Calls.quiet_of (cB0 _)) | (go_at_call 49; with_reducible exact Calls.quiet_of (cB1 _)) | (go_at_call 49; with_reducible exact Calls.quiet_of (cB2 _)) | (go_at_call 49; with_reducible exact Calls.quiet_of (cB3 _))))
                            clear cB0 cB1 cB2 cB3
                            go_wp2
                            go_roundg g'
                            case measure => omega
                            case rel => exact ⟨below_drewNv hwr nq, u, _, rfl, hru, vu, by omega, by omega⟩
                      · have c32z : ¬ ((32 : Int) < (u.size : Int)) := by omega
                        have c32b : decide ((32 : Int) < (u.size : Int)) = false := decide_eq_false c32z
                        go_wp2_with fail
                        go_quiet (fail)
                        go_wp2
                        go_roundg g'
                        case measure => omega
                        case rel => exact ⟨below_drewNv hwr nq, u, _, rfl, hru, vu, by omega, by omega⟩
                · have hz2b : ((Z2 : Int) == 0) = false := by simp; omega
                  clear k2 ht3 hz2 hr3 hcut3
                  go_quiet ((first | (go_at_call 49; with_reducible exact Calls.quiet_of (cN2 _)) | (go_at_call 49; with_reducible exact Calls.quiet_of (cN3 _))))
                  go_wp2
                  go_roundg g'
                  case measure => omega
                  case rel => exact ⟨below_drewNv hwq nq, t2, _, rfl, hr2, v2, by omega, by omega⟩
              · have c16z : ¬ ((16 : Int) < (t2.size : Int)) := by omega
                have c16b : decide ((16 : Int) < (t2.size : Int)) = false := decide_eq_false c16z
                go_quiet (fail)
                go_wp2
                go_roundg g'
                case measure => omega
                case rel => exact ⟨below_drewNv hwq nq, t2, _, rfl, hr2, v2, by omega, by omega⟩
            · have hz1b : ((Z1 : Int) == 0) = false := by simp; omega
              clear kN1 ht2 hN1 lN1 hZ1 hz1 hr2 hcut2
              go_wp2_with (go_at_call 49; (with_reducible refine cN1'.mono ?_); rintro e W1 ⟨rfl, q1, rfl⟩)
              go_roundg g'
              case measure => omega
              case rel => exact ⟨below_drewNv hbw q1, t1, _, rfl, hr1, v1, by omega, by omega⟩
        · have c8z : ¬ ((8 : Int) < (t1.size : Int)) := by omega
          go_wp2
          go_roundg g'
          case measure => omega
          case rel => exact ⟨hbw, t1, _, rfl, hr1, v1, by omega, by omega⟩
      · have hge : 128 ≤ x0.toNat := by omega
        have hascz : ¬ ((x0.toNat : Int) < 128) := by omega
        obtain ⟨x1, hx1⟩ : ∃ x1, t.get! 1 = x1 := ⟨_, rfl⟩
        obtain ⟨x2, hx2⟩ : ∃ x2, t.get! 2 = x2 := ⟨_, rfl⟩
        obtain ⟨x3, hx3⟩ : ∃ x3, t.get! 3 = x3 := ⟨_, rfl⟩
        have l1 := x1.toNat_lt
        have l2 := x2.toNat_lt
        have l3 := x3.toNat_lt
        have hx1c : 1 < t.size → ∀ o, (wr.alloc o).cell? ⟨ad.block, ad.off + 1, none⟩ = some (.int .u8 (x1.toNat : Int)) := fun h o => by rw [← hx1]; exact pw_cell_below (below_alloc (Below.refl _ _) o) (pw_cell_below hbw (hrow.cell_at (by omega) h))
        have hx2c : 2 < t.size → ∀ o, (wr.alloc o).cell? ⟨ad.block, ad.off + 2, none⟩ = some (.int .u8 (x2.toNat : Int)) := fun h o => by rw [← hx2]; exact pw_cell_below (below_alloc (Below.refl _ _) o) (pw_cell_below hbw (hrow.cell_at (by omega) h))
        have hx3c : 3 < t.size → ∀ o, (wr.alloc o).cell? ⟨ad.block, ad.off + 3, none⟩ = some (.int .u8 (x3.toNat : Int)) := fun h o => by rw [← hx3]; exact pw_cell_below (below_alloc (Below.refl _ _) o) (pw_cell_below hbw (hrow.cell_at (by omega) h))
        have hne : t.data.toList ≠ [] := fun h => by rw [Lib.size_eq, h] at h0; simp at h0
        have hlead := Lib.validD_lead t.data.toList hne (by rw [getD_get!_, hx0]; exact hge)
        rw [getD_get!_, getD_get!_, getD_get!_, getD_get!_, hx0, hx1, hx2, hx3, ← Lib.size_eq, hv] at hlead
        have hc0 := hTr.1 x0.toNat hx0lt
        have hXlt : Lib.firstT x0.toNat < 256 := by have := firstT_lt x0.toNat; omega
        obtain ⟨X, hX⟩ : ∃ X, Lib.firstT x0.toNat = X := ⟨_, rfl⟩
        rw [hX] at hc0 hXlt hlead
        have h7 := and7_ ⟨X, hXlt⟩
        simp only at h7
        have ha0 : wr.cell? ⟨1, X / 16 * 2, none⟩ = some (.int .u8 (Lib.accLo (X / 16))) := by rw [Nat.mul_comm]; exact (hTr.2 (X / 16) (by omega)).1
        have ha1 : wr.cell? ⟨1, X / 16 * 2 + 1, none⟩ = some (.int .u8 (Lib.accHi (X / 16))) := by rw [Nat.mul_comm]; exact (hTr.2 (X / 16) (by omega)).2
        obtain ⟨LO, hLO⟩ : ∃ LO, Lib.accLo (X / 16) = LO := ⟨_, rfl⟩
        obtain ⟨HI, hHI⟩ : ∃ HI, Lib.accHi (X / 16) = HI := ⟨_, rfl⟩
        rw [hLO] at ha0 hlead
        rw [hHI] at ha1 hlead
        obtain ⟨SZ, hSZ⟩ : ∃ SZ, X % 8 = SZ := ⟨_, rfl⟩
        rw [hSZ] at hlead
        have hx1c := hx1c
        clear hTr HG hX hv hLO hHI hne hx0 hx1 hx2 hx3
        by_cases s2 : SZ = 2
        · as_aux_lemma =>
            subst s2
            have hSZz : (X : Int) % 8 = 2 := by omega
            simp only [Lib.checkN, Nat.reduceEqDiff, if_true, if_false] at hlead
            go_upto_region 18 with fail
            go_cut [103] from 85 to 103 (fun c wx => c = .bool (decide (t.size < 2 ∨ x1.toNat < LO ∨ HI < x1.toNat)) ∧ Below w.heap.size w wx)
            case first =>
              by_cases q0 : t.size < 2
              · have q0z : (t.size : Int) < 2 := by omega
                go_quiet (fail)
                go_wp2
                go_meet
                exact ⟨congrArg Value.bool (decide_eq_true (p := t.size < 2 ∨ x1.toNat < LO ∨ HI < x1.toNat) (by omega)).symm, below_drewNv (below_alloc hbw _) _⟩
              · have q0z : ¬ ((t.size : Int) < 2) := by omega
                have hz1 : (1 : Int) < (t.size : Int) := by omega
                have hp1 : 1 < t.size := by omega
                have cx1 := hx1c (by omega)
                clear hx1c hx2c hx3c
                by_cases q1 : x1.toNat < LO
                · have q1z : (x1.toNat : Int) < (LO : Int) := by omega
                  go_quiet (fail)
                  go_wp2
                  go_meet
                  exact ⟨congrArg Value.bool (decide_eq_true (p := t.size < 2 ∨ x1.toNat < LO ∨ HI < x1.toNat) (by omega)).symm, below_drewNv (below_alloc hbw _) _⟩
                · have q1z : ¬ ((x1.toNat : Int) < (LO : Int)) := by omega
                  by_cases q2 : HI < x1.toNat
                  · have q2z : (HI : Int) < (x1.toNat : Int) := by omega
                    go_quiet (fail)
                    go_wp2
                    go_meet
                    exact ⟨congrArg Value.bool (decide_eq_true (p := t.size < 2 ∨ x1.toNat < LO ∨ HI < x1.toNat) (by omega)).symm, below_drewNv (below_alloc hbw _) _⟩
                  · have q2z : ¬ ((HI : Int) < (x1.toNat : Int)) := by omega
                    go_quiet (fail)
                    go_wp2
                    go_meet
                    exact ⟨congrArg Value.bool (decide_eq_false (p := t.size < 2 ∨ x1.toNat < LO ∨ HI < x1.toNat) (by omega)).symm, below_drewNv (below_alloc hbw _) _⟩
            case rest =>
              obtain ⟨rfl, hbc⟩ := hcut
              by_cases hb : t.size < 2 ∨ x1.toNat < LO ∨ HI < x1.toNat
              · have hbd : decide (t.size < 2 ∨ x1.toNat < LO ∨ HI < x1.toNat) = true := decide_eq_true hb
                rw [if_pos hb] at hlead
                go_wp2
                all_goals (go_ret; exact ⟨by first | rfl | rw [hlead], hbc⟩)
              · have hbd : decide (t.size < 2 ∨ x1.toNat < LO ∨ HI < x1.toNat) = false := decide_eq_false hb
                rw [if_neg hb] at hlead
                obtain ⟨A2, hcut, hrk⟩ := BRow.cut (some ad) t 2 2 rfl (by omega) hrow
                obtain ⟨t', ht'⟩ : ∃ t', t.extract 2 t.size = t' := ⟨_, rfl⟩
                rw [ht'] at hcut hrk
                have hz' : t'.size + 2 = t.size := by rw [← ht', Lib.ext_size]; omega
                have hv' : Lib.validD t'.data.toList = ANS := by rw [← ht', Lib.ext_list, hlead]
                clear hlead ht'
                clear hrow
                go_wp2
                go_roundg g'
                case measure => omega
                case rel => exact ⟨hbc, _, _, rfl, hrk, hv', by omega, by omega⟩
        by_cases s3 : SZ = 3
        · as_aux_lemma =>
            subst s3
            have hSZz : (X : Int) % 8 = 3 := by omega
            simp only [Lib.checkN, Nat.reduceEqDiff, if_true, if_false] at hlead
            go_upto_region 22 with fail
            go_cut [138] from 108 to 138 (fun c wx => c = .bool (decide (t.size < 3 ∨ x1.toNat < LO ∨ HI < x1.toNat ∨ x2.toNat < 128 ∨ 191 < x2.toNat)) ∧ Below w.heap.size w wx)
            case first =>
              by_cases q0 : t.size < 3
              · have q0z : (t.size : Int) < 3 := by omega
                go_quiet (fail)
                go_wp2
                go_meet
                exact ⟨congrArg Value.bool (decide_eq_true (p := t.size < 3 ∨ x1.toNat < LO ∨ HI < x1.toNat ∨ x2.toNat < 128 ∨ 191 < x2.toNat) (by omega)).symm, below_drewNv (below_alloc hbw _) _⟩
              · have q0z : ¬ ((t.size : Int) < 3) := by omega
                have hz1 : (1 : Int) < (t.size : Int) := by omega
                have hp1 : 1 < t.size := by omega
                have cx1 := hx1c (by omega)
                have hz2 : (2 : Int) < (t.size : Int) := by omega
                have hp2 : 2 < t.size := by omega
                have cx2 := hx2c (by omega)
                clear hx1c hx2c hx3c
                by_cases q1 : x1.toNat < LO
                · have q1z : (x1.toNat : Int) < (LO : Int) := by omega
                  go_quiet (fail)
                  go_wp2
                  go_meet
                  exact ⟨congrArg Value.bool (decide_eq_true (p := t.size < 3 ∨ x1.toNat < LO ∨ HI < x1.toNat ∨ x2.toNat < 128 ∨ 191 < x2.toNat) (by omega)).symm, below_drewNv (below_alloc hbw _) _⟩
                · have q1z : ¬ ((x1.toNat : Int) < (LO : Int)) := by omega
                  by_cases q2 : HI < x1.toNat
                  · have q2z : (HI : Int) < (x1.toNat : Int) := by omega
                    go_quiet (fail)
                    go_wp2
                    go_meet
                    exact ⟨congrArg Value.bool (decide_eq_true (p := t.size < 3 ∨ x1.toNat < LO ∨ HI < x1.toNat ∨ x2.toNat < 128 ∨ 191 < x2.toNat) (by omega)).symm, below_drewNv (below_alloc hbw _) _⟩
                  · have q2z : ¬ ((HI : Int) < (x1.toNat : Int)) := by omega
                    by_cases q3 : x2.toNat < 128
                    · have q3z : (x2.toNat : Int) < 128 := by omega
                      go_quiet (fail)
                      go_wp2
                      go_meet
                      exact ⟨congrArg Value.bool (decide_eq_true (p := t.size < 3 ∨ x1.toNat < LO ∨ HI < x1.toNat ∨ x2.toNat < 128 ∨ 191 < x2.toNat) (by omega)).symm, below_drewNv (below_alloc hbw _) _⟩
                    · have q3z : ¬ ((x2.toNat : Int) < 128) := by omega
                      by_cases q4 : 191 < x2.toNat
                      · have q4z : (191 : Int) < (x2.toNat : Int) := by omega
                        go_quiet (fail)
                        go_wp2
                        go_meet
                        exact ⟨congrArg Value.bool (decide_eq_true (p := t.size < 3 ∨ x1.toNat < LO ∨ HI < x1.toNat ∨ x2.toNat < 128 ∨ 191 < x2.toNat) (by omega)).symm, below_drewNv (below_alloc hbw _) _⟩
                      · have q4z : ¬ ((191 : Int) < (x2.toNat : Int)) := by omega
                        go_quiet (fail)
                        go_wp2
                        go_meet
                        exact ⟨congrArg Value.bool (decide_eq_false (p := t.size < 3 ∨ x1.toNat < LO ∨ HI < x1.toNat ∨ x2.toNat < 128 ∨ 191 < x2.toNat) (by omega)).symm, below_drewNv (below_alloc hbw _) _⟩
            case rest =>
              obtain ⟨rfl, hbc⟩ := hcut
              by_cases hb : t.size < 3 ∨ x1.toNat < LO ∨ HI < x1.toNat ∨ x2.toNat < 128 ∨ 191 < x2.toNat
              · have hbd : decide (t.size < 3 ∨ x1.toNat < LO ∨ HI < x1.toNat ∨ x2.toNat < 128 ∨ 191 < x2.toNat) = true := decide_eq_true hb
                rw [if_pos hb] at hlead
                go_wp2
                all_goals (go_ret; exact ⟨by first | rfl | rw [hlead], hbc⟩)
              · have hbd : decide (t.size < 3 ∨ x1.toNat < LO ∨ HI < x1.toNat ∨ x2.toNat < 128 ∨ 191 < x2.toNat) = false := decide_eq_false hb
                rw [if_neg hb] at hlead
                obtain ⟨A3, hcut, hrk⟩ := BRow.cut (some ad) t 3 3 rfl (by omega) hrow
                obtain ⟨t', ht'⟩ : ∃ t', t.extract 3 t.size = t' := ⟨_, rfl⟩
                rw [ht'] at hcut hrk
                have hz' : t'.size + 3 = t.size := by rw [← ht', Lib.ext_size]; omega
                have hv' : Lib.validD t'.data.toList = ANS := by rw [← ht', Lib.ext_list, hlead]
                clear hlead ht'
                clear hrow
                go_wp2
                go_roundg g'
                case measure => omega
                case rel => exact ⟨hbc, _, _, rfl, hrk, hv', by omega, by omega⟩
        by_cases s4 : SZ = 4
        · as_aux_lemma =>
            subst s4
            have hSZz : (X : Int) % 8 = 4 := by omega
            simp only [Lib.checkN, Nat.reduceEqDiff, if_true, if_false] at hlead
            go_upto_region 26 with fail
            go_cut [185] from 143 to 185 (fun c wx => c = .bool (decide (t.size < 4 ∨ x1.toNat < LO ∨ HI < x1.toNat ∨ x2.toNat < 128 ∨ 191 < x2.toNat ∨ x3.toNat < 128 ∨ 191 < x3.toNat)) ∧ Below w.heap.size w wx)
            case first =>
              by_cases q0 : t.size < 4
              · have q0z : (t.size : Int) < 4 := by omega
                go_quiet (fail)
                go_wp2
                go_meet
                exact ⟨congrArg Value.bool (decide_eq_true (p := t.size < 4 ∨ x1.toNat < LO ∨ HI < x1.toNat ∨ x2.toNat < 128 ∨ 191 < x2.toNat ∨ x3.toNat < 128 ∨ 191 < x3.toNat) (by omega)).symm, below_drewNv (below_alloc hbw _) _⟩
              · have q0z : ¬ ((t.size : Int) < 4) := by omega
                have hz1 : (1 : Int) < (t.size : Int) := by omega
                have hp1 : 1 < t.size := by omega
                have cx1 := hx1c (by omega)
                have hz2 : (2 : Int) < (t.size : Int) := by omega
                have hp2 : 2 < t.size := by omega
                have cx2 := hx2c (by omega)
                have hz3 : (3 : Int) < (t.size : Int) := by omega
                have hp3 : 3 < t.size := by omega
                have cx3 := hx3c (by omega)
                clear hx1c hx2c hx3c
                by_cases q1 : x1.toNat < LO
                · have q1z : (x1.toNat : Int) < (LO : Int) := by omega
                  go_quiet (fail)
                  go_wp2
                  go_meet
                  exact ⟨congrArg Value.bool (decide_eq_true (p := t.size < 4 ∨ x1.toNat < LO ∨ HI < x1.toNat ∨ x2.toNat < 128 ∨ 191 < x2.toNat ∨ x3.toNat < 128 ∨ 191 < x3.toNat) (by omega)).symm, below_drewNv (below_alloc hbw _) _⟩
                · have q1z : ¬ ((x1.toNat : Int) < (LO : Int)) := by omega
                  by_cases q2 : HI < x1.toNat
                  · have q2z : (HI : Int) < (x1.toNat : Int) := by omega
                    go_quiet (fail)
                    go_wp2
                    go_meet
                    exact ⟨congrArg Value.bool (decide_eq_true (p := t.size < 4 ∨ x1.toNat < LO ∨ HI < x1.toNat ∨ x2.toNat < 128 ∨ 191 < x2.toNat ∨ x3.toNat < 128 ∨ 191 < x3.toNat) (by omega)).symm, below_drewNv (below_alloc hbw _) _⟩
                  · have q2z : ¬ ((HI : Int) < (x1.toNat : Int)) := by omega
                    by_cases q3 : x2.toNat < 128
                    · have q3z : (x2.toNat : Int) < 128 := by omega
                      go_quiet (fail)
                      go_wp2
                      go_meet
                      exact ⟨congrArg Value.bool (decide_eq_true (p := t.size < 4 ∨ x1.toNat < LO ∨ HI < x1.toNat ∨ x2.toNat < 128 ∨ 191 < x2.toNat ∨ x3.toNat < 128 ∨ 191 < x3.toNat) (by omega)).symm, below_drewNv (below_alloc hbw _) _⟩
                    · have q3z : ¬ ((x2.toNat : Int) < 128) := by omega
                      by_cases q4 : 191 < x2.toNat
                      · have q4z : (191 : Int) < (x2.toNat : Int) := by omega
                        go_quiet (fail)
                        go_wp2
                        go_meet
                        exact ⟨congrArg Value.bool (decide_eq_true (p := t.size < 4 ∨ x1.toNat < LO ∨ HI < x1.toNat ∨ x2.toNat < 128 ∨ 191 < x2.toNat ∨ x3.toNat < 128 ∨ 191 < x3.toNat) (by omega)).symm, below_drewNv (below_alloc hbw _) _⟩
                      · have q4z : ¬ ((191 : Int) < (x2.toNat : Int)) := by omega
                        by_cases q5 : x3.toNat < 128
                        · have q5z : (x3.toNat : Int) < 128 := by omega
                          go_quiet (fail)
                          go_wp2
                          go_meet
                          exact ⟨congrArg Value.bool (decide_eq_true (p := t.size < 4 ∨ x1.toNat < LO ∨ HI < x1.toNat ∨ x2.toNat < 128 ∨ 191 < x2.toNat ∨ x3.toNat < 128 ∨ 191 < x3.toNat) (by omega)).symm, below_drewNv (below_alloc hbw _) _⟩
                        · have q5z : ¬ ((x3.toNat : Int) < 128) := by omega
                          by_cases q6 : 191 < x3.toNat
                          · have q6z : (191 : Int) < (x3.toNat : Int) := by omega
                            go_quiet (fail)
                            go_wp2
                            go_meet
                            exact ⟨congrArg Value.bool (decide_eq_true (p := t.size < 4 ∨ x1.toNat < LO ∨ HI < x1.toNat ∨ x2.toNat < 128 ∨ 191 < x2.toNat ∨ x3.toNat < 128 ∨ 191 < x3.toNat) (by omega)).symm, below_drewNv (below_alloc hbw _) _⟩
                          · have q6z : ¬ ((191 : Int) < (x3.toNat : Int)) := by omega
                            go_quiet (fail)
                            go_wp2
                            go_meet
                            exact ⟨congrArg Value.bool (decide_eq_false (p := t.size < 4 ∨ x1.toNat < LO ∨ HI < x1.toNat ∨ x2.toNat < 128 ∨ 191 < x2.toNat ∨ x3.toNat < 128 ∨ 191 < x3.toNat) (by omega)).symm, below_drewNv (below_alloc hbw _) _⟩
            case rest =>
              obtain ⟨rfl, hbc⟩ := hcut
              by_cases hb : t.size < 4 ∨ x1.toNat < LO ∨ HI < x1.toNat ∨ x2.toNat < 128 ∨ 191 < x2.toNat ∨ x3.toNat < 128 ∨ 191 < x3.toNat
              · have hbd : decide (t.size < 4 ∨ x1.toNat < LO ∨ HI < x1.toNat ∨ x2.toNat < 128 ∨ 191 < x2.toNat ∨ x3.toNat < 128 ∨ 191 < x3.toNat) = true := decide_eq_true hb
                rw [if_pos hb] at hlead
                go_wp2
                all_goals (go_ret; exact ⟨by first | rfl | rw [hlead], hbc⟩)
              · have hbd : decide (t.size < 4 ∨ x1.toNat < LO ∨ HI < x1.toNat ∨ x2.toNat < 128 ∨ 191 < x2.toNat ∨ x3.toNat < 128 ∨ 191 < x3.toNat) = false := decide_eq_false hb
                rw [if_neg hb] at hlead
                obtain ⟨A4, hcut, hrk⟩ := BRow.cut (some ad) t 4 4 rfl (by omega) hrow
                obtain ⟨t', ht'⟩ : ∃ t', t.extract 4 t.size = t' := ⟨_, rfl⟩
                rw [ht'] at hcut hrk
                have hz' : t'.size + 4 = t.size := by rw [← ht', Lib.ext_size]; omega
                have hv' : Lib.validD t'.data.toList = ANS := by rw [← ht', Lib.ext_list, hlead]
                clear hlead ht'
                clear hrow
                go_wp2
                go_roundg g'
                case measure => omega
                case rel => exact ⟨hbc, _, _, rfl, hrk, hv', by omega, by omega⟩
        have e2 : ¬ ((X : Int) % 8 = 2) := by omega
        have e3 : ¬ ((X : Int) % 8 = 3) := by omega
        have e4 : ¬ ((X : Int) % 8 = 4) := by omega
        have e2b : (((X : Int) % 8) == 2) = false := by simp; omega
        have e3b : (((X : Int) % 8) == 3) = false := by simp; omega
        have e4b : (((X : Int) % 8) == 4) = false := by simp; omega
        simp only [Lib.checkN, s2, s3, s4, if_false] at hlead
        clear hx1c hx2c hx3c
        go_wp2
        all_goals (go_ret; exact ⟨by first | rfl | rw [hlead], below_alloc hbw _⟩)
    · have h0z : ¬ ((0 : Int) < (t.size : Int)) := by omega
      have ht0 : t.data.toList = [] := List.eq_nil_of_length_eq_zero (by rw [← Lib.size_eq]; omega)
      rw [ht0, Lib.validD_nil] at hv
      subst hv
      go_wp2
      go_ret
      exact ⟨rfl, hbw⟩

end Go.Proofs.YtoeknjmdlmhajaaDoor.G
