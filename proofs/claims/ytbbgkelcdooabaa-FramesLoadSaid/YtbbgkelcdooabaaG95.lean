/- FramesLoad: whatever is loaded. -/
import Derived.Deep.DeepMust
import Derived.Test.YtbbgkelcdooabaaFraH
import Derived.Test.YtbbgkelcdooabaaFraW
namespace Go.Proofs.Ytbbgkelcdooabaa.G
open Go.RowKit Go.Proofs.YtbbgkelcdooabaaW.PrintWords Go.Proofs.YtbbgkelcdooabaaW.PrintLast Go.Proofs.YtbbgkelcdooabaaW.PrintMore
set_option linter.unusedVariables false
set_option linter.unusedSimpArgs false
def okA (x : S44) : Prop := -9223372036854775808 ≤ x.f3 ∧ x.f3 < 9223372036854775808
instance (x : S44) : Decidable (okA x) := by unfold okA; infer_instance
set_option maxHeartbeats 8000000 in
set_option maxRecDepth 100000 in
theorem framesLoad (d : Int) (l : List S44) (A0 : Option Addr) (c0 : Nat) (fr : List S61) (A1 : Option Addr) (c1 : Nat) (vals : List Int) (A2 : Option Addr) (c2 : Nat) (w : World) (hC0 : Kd.C k44 w A0 l.length l) (hc0 : l.length ≤ c0)
    (hC1 : Kd.C k61 w A1 fr.length fr) (hc1 : fr.length ≤ c1) (hC2 : Kd.C (Kd.int .u64) w A2 vals.length vals) (hc2 : vals.length ≤ c2) (hok0 : ∀ x ∈ l, okA x) :
    Calls Try.prog 8 #[.int .i64 d, .slice A0 l.length c0, .slice A1 fr.length c1, .slice A2 vals.length c2] w fun e w' => e = .returned (.bool true) ∧ Below w.heap.size w w' := by
  have HC0 := Aside0.mk hC0
  have HC1 := Aside0.mk hC1
  have HC2 := Aside0.mk hC2
  have HOK0 := Aside0.mk hok0
  clear hC0 hC1 hC2 hok0
  obtain ⟨n, hn⟩ : ∃ n, fr.length = n := ⟨_, rfl⟩
  obtain ⟨m, hm⟩ : ∃ m, vals.length = m := ⟨_, rfl⟩
  have HN := Aside0.mk hn
  have HM := Aside0.mk hm
  rw [hn] at HC1 hc1 ⊢
  rw [hm] at HC2 hc2 ⊢
  clear hn hm
  obtain ⟨sm, hsm⟩ : ∃ sm, smallB l = sm := ⟨_, rfl⟩
  have HSM := Aside0.mk hsm
  clear hsm
  cases sm with
  | false =>
    go_enter Try.func8, Try.ntmps8
    go_wp2_with (first
      | (go_at_call 9; (with_reducible refine (awake _).mono ?_); rintro e w1 ⟨rfl, hb⟩; have HB := Aside0.mk ((SB.start w).below hb); clear hb)
      | (go_at_call 19; (with_reducible refine (frSmall HB.out A0 c0 l (Kd.C_below HC0.out HB.out.bel) hc0).mono ?_); rintro e w2 ⟨rfl, hs⟩; rw [HSM.out]; have HB2 := Aside0.mk hs; clear hs))
    go_ret
    exact ⟨rfl, HB2.out.bel⟩
  | true =>
  by_cases hn70 : 70 < n
  · have e1 : decide ((70 : Int) < (n : Int)) = true := decide_eq_true (by omega)
    have e2 : decide (70 < n) = true := decide_eq_true hn70
    go_enter Try.func8, Try.ntmps8
    go_wp2_with (first
      | (go_at_call 9; (with_reducible refine (awake _).mono ?_); rintro e w1 ⟨rfl, hb⟩; have HB := Aside0.mk ((SB.start w).below hb); clear hb)
      | (go_at_call 19; (with_reducible refine (frSmall HB.out A0 c0 l (Kd.C_below HC0.out HB.out.bel) hc0).mono ?_); rintro e w2 ⟨rfl, hs⟩; rw [HSM.out]; have HB2 := Aside0.mk hs; clear hs))
    go_ret
    exact ⟨rfl, HB2.out.bel⟩
  have e1 : decide ((70 : Int) < (n : Int)) = false := decide_eq_false (by omega)
  have e2 : decide (70 < n) = false := decide_eq_false hn70
  by_cases hm100 : 100 < m
  · have e3 : decide ((100 : Int) < (m : Int)) = true := decide_eq_true (by omega)
    have e4 : decide (100 < m) = true := decide_eq_true hm100
    go_enter Try.func8, Try.ntmps8
    go_wp2_with (first
      | (go_at_call 9; (with_reducible refine (awake _).mono ?_); rintro e w1 ⟨rfl, hb⟩; have HB := Aside0.mk ((SB.start w).below hb); clear hb)
      | (go_at_call 19; (with_reducible refine (frSmall HB.out A0 c0 l (Kd.C_below HC0.out HB.out.bel) hc0).mono ?_); rintro e w2 ⟨rfl, hs⟩; rw [HSM.out]; have HB2 := Aside0.mk hs; clear hs))
    go_ret
    exact ⟨rfl, HB2.out.bel⟩
  have e3 : decide ((100 : Int) < (m : Int)) = false := decide_eq_false (by omega)
  have e4 : decide (100 < m) = false := decide_eq_false hm100
  have hll := (smallB_iff HSM.out).1
  obtain ⟨r, hr⟩ : ∃ r, max 0 (min d 64) = r := ⟨_, rfl⟩
  have hr64 : r ≤ 64 := by omega
  go_enter Try.func8, Try.ntmps8
  go_wp2_with (first
    | (go_at_call 9; (with_reducible refine (awake _).mono ?_); rintro e w1 ⟨rfl, hb⟩; have HB := Aside0.mk ((SB.start w).below hb); clear hb)
    | (go_at_call 19; (with_reducible refine (frSmall HB.out A0 c0 l (Kd.C_below HC0.out HB.out.bel) hc0).mono ?_); rintro e w2 ⟨rfl, hs⟩; rw [HSM.out]; have HB2 := Aside0.mk hs; clear hs))
  clear e1 e2 e3 e4
  go_loopw [10] (fun v10 wr => ∃ (i : Nat), v10 = .int .i64 i ∧ i ≤ n ∧ Aside0 (∀ x ∈ fr.take i, x.f2.length ≤ 60) ∧ Aside0 (SB w wr [])) (fun v10 _ => n - (intOf v10).toNat)
  case atStart => exact ⟨0, rfl, Nat.zero_le _, ⟨fun x hx => by simp at hx⟩, HB2⟩
  case round =>
    obtain ⟨i, rfl, hi, HL, HR⟩ := hrel
    by_cases hlt : i < n
    · have e1 : decide ((i : Int) < (n : Int)) = true := decide_eq_true (by omega)
      have e2 : decide (i < n) = true := decide_eq_true hlt
      have hil : i < fr.length := by rw [HN.out]; exact hlt
      obtain ⟨x, hx⟩ : ∃ x, fr[i] = x := ⟨_, rfl⟩
      have hat := at_T61 (Kd.C_below HC1.out HR.out.bel) (i : Int) (by omega) (by omega)
      rw [rd61 hil, hx, Int.toNat_natCast] at hat
      obtain ⟨ad, A6, c6, rfl, q0, q1, q2, q3, l6, g6⟩ := hat
      have HTK := Aside0.mk (show fr.take (i + 1) = fr.take i ++ [x] by rw [List.take_succ_eq_append_getElem hil, hx])
      obtain ⟨lx, hlx⟩ : ∃ k, x.f2.length = k := ⟨_, rfl⟩
      have HLX := Aside0.mk hlx
      rw [hlx] at q2
      clear hx g6 l6 hlx
      by_cases h60 : 60 < lx
      · have e3 : decide ((60 : Int) < (lx : Int)) = true := decide_eq_true (by omega)
        have e4 : decide (60 < lx) = true := decide_eq_true h60
        go_wp2
        go_ret
        exact ⟨rfl, HR.out.bel⟩
      · have e3 : decide ((60 : Int) < (lx : Int)) = false := decide_eq_false (by omega)
        have e4 : decide (60 < lx) = false := decide_eq_false h60
        go_wp2
        refine ⟨⟨i + 1, by simp, by omega, ⟨fun y hy => ?_⟩, HR⟩, by simp [intOf]; omega⟩
        rw [HTK.out] at hy
        rcases List.mem_append.1 hy with hy | hy
        · exact HL.out y hy
        · rw [List.mem_singleton.1 hy, HLX.out]; omega
    · have e1 : decide ((i : Int) < (n : Int)) = false := decide_eq_false (by omega)
      have e2 : decide (i < n) = false := decide_eq_false hlt
      have hL := HL.out
      rw [List.take_of_length_le (by rw [HN.out]; omega)] at hL
      have HL := Aside0.mk hL
      clear hL
      go_wp2_with (first
        | (go_at_call 10; go_must ((with_reducible refine (frNewS HR.out d).mono ?_); rintro e w3 ⟨rfl, hs⟩; rw [hr] at hs; obtain ⟨p, hp⟩ : ∃ p, wr.heap.size = p := ⟨_, rfl⟩; rw [hp] at hs ⊢; have HS3 := Aside0.mk (show SB w w3 [FO p ⟨[], [], r⟩] from hs); clear hs hp))
        | (go_at_call 25; go_must ((with_reducible refine (xNew HS3.out d).mono ?_); rintro e w4 ⟨rfl, hs⟩; rw [hr] at hs; obtain ⟨g, hg⟩ : ∃ g, w3.heap.size = g := ⟨_, rfl⟩; rw [hg] at hs ⊢; have HS4 := Aside0.mk (show SB w w4 [FO p ⟨[], [], r⟩, XO g ⟨[], [], r⟩] from hs.swap); clear hs hg)))
      go_loopw [13] (fun v13 wr => ∃ (j : Nat) (s : FS), v13 = .int .i64 j ∧ j ≤ l.length ∧ Aside0 (Inv s (40 * j) ∧ s.room = r) ∧ Aside0 (SB w wr [FO p s, XO g s])) (fun v13 _ => l.length - (intOf v13).toNat)
      case atStart => exact ⟨0, ⟨[], [], r⟩, rfl, Nat.zero_le _, ⟨inv_new r, rfl⟩, HS4⟩
      case round =>
      obtain ⟨j, s, rfl, hj, HI, HR2⟩ := hrel
      have hF : s.fr.length ≤ 64 := by have := HI.out.1.fl; rw [HI.out.2] at this; omega
      by_cases hlt2 : j < l.length
      · have e3 : decide ((j : Int) < (l.length : Int)) = true := decide_eq_true (by omega)
        have e4 : decide (j < l.length) = true := decide_eq_true hlt2
        obtain ⟨x, hx⟩ : ∃ x, l[j] = x := ⟨_, rfl⟩
        have hxm : x ∈ l := by rw [← hx]; exact List.getElem_mem _
        have HX := Aside0.mk (And.intro (show -9223372036854775808 ≤ x.f3 ∧ x.f3 < 9223372036854775808 from HOK0.out x hxm) ((smallB_iff HSM.out).2 x hxm))
        have hat0 := at_T44 HC0.out (j : Int) (by omega) (by omega)
        rw [rd44 hlt2, hx, Int.toNat_natCast] at hat0
        obtain ⟨ad, A8, c8, rfl, q0, q1, q2, q3, q4, q5, q6, l8, g8⟩ := hat0
        have hbw := HR2.out.bel
        have q0 := pw_cell_below hbw q0
        have q1 := pw_cell_below hbw q1
        have q2 := pw_cell_below hbw q2
        have q3 := pw_cell_below hbw q3
        have q4 := pw_cell_below hbw q4
        have q5 := pw_cell_below hbw q5
        have q6 := pw_cell_below hbw q6
        have HG := Aside0.mk g8
        have HBO := Aside0.mk (frBoth HR2.out HI.out.1 (by omega) hF x A8 c8 HG.out l8 (by have := HX.out.2.1; omega) (Int.le_trans HX.out.2.2 (by decide)) HX.out.1)
        clear hxm hx g8 hbw
        go_wp2_with (go_at_call 26; go_must ((with_reducible refine (HBO.out).mono ?_); rintro e w5 ⟨rfl, hs⟩; have HR5 := Aside0.mk hs; clear hs))
        have hd := inv_do HI.out.1 x HX.out.2.2
        refine ⟨⟨j + 1, (fDo s x).1, by simp, by omega, ⟨hd.1.up (Nat.le_trans (Nat.add_le_add_left HX.out.2.1 _) (by omega)), by rw [hd.2.1]; exact HI.out.2⟩, HR5⟩, by simp [intOf]; omega⟩
      have e3 : decide ((j : Int) < (l.length : Int)) = false := decide_eq_false (by omega)
      have e4 : decide (j < l.length) = false := decide_eq_false hlt2
      have HI := Aside0.mk (And.intro (HI.out.1.up (B' := 4000) (by omega)) HI.out.2)
      obtain ⟨s', rb, hfl0⟩ : ∃ s' rb, fLoad s (fr.map ou) vals = (s', rb) := ⟨_, _, rfl⟩
      have hlo : ∀ x ∈ fr.map ou, x.f2.length ≤ 1000000 := fun x hx => by
        obtain ⟨y, hy, rfl⟩ := List.mem_map.1 hx
        have := HL.out y hy
        show y.f2.length ≤ 1000000
        omega
      have hbnd : s'.v.length ≤ 8000 ∧ s'.fr.length ≤ 64 ∧ ∀ f ∈ s'.fr, f.loc.length ≤ 1000000 := by
        have hi := HI.out.1
        have h0 : s.v.length ≤ 8000 ∧ s.fr.length ≤ 64 ∧ ∀ f ∈ s.fr, f.loc.length ≤ 1000000 := ⟨by have := hi.vl; omega, hF, fun f hf => by have := hi.loc f hf; omega⟩
        unfold fLoad at hfl0
        split at hfl0
        · simp only [Prod.mk.injEq] at hfl0
          rw [← hfl0.1]; exact h0
        · split at hfl0
          · simp only [Prod.mk.injEq] at hfl0
            rename_i hh _
            rw [← hfl0.1]
            rw [HI.out.2, List.length_map, HN.out] at hh
            refine ⟨by show vals.length ≤ 8000; rw [HM.out]; omega, by show ((fr.map ou).map sFm).length ≤ 64; rw [List.length_map, List.length_map, HN.out]; omega, fun f hf => ?_⟩
            obtain ⟨y, hy, rfl⟩ := List.mem_map.1 hf
            exact hlo y hy
          · simp only [Prod.mk.injEq] at hfl0
            rw [← hfl0.1]; exact h0
      have HLD := Aside0.mk hfl0
      have HLO := Aside0.mk hlo
      have HFO := Aside0.mk (show (fr.map ou).length = n by rw [List.length_map, HN.out])
      have HLF := Aside0.mk (show ∀ x ∈ fr, x.f2.length ≤ 1000000 from fun x hx => by have := HL.out x hx; omega)
      have HRO := Aside0.mk (show s.room ≤ 64 by rw [HI.out.2]; exact hr64)
      have HDF := Aside0.mk HR2.out.drew
      obtain ⟨vl, hvl⟩ : ∃ k, s'.v.length = k := ⟨_, rfl⟩
      obtain ⟨fl, hfl⟩ : ∃ k, s'.fr.length = k := ⟨_, rfl⟩
      have hvl8 : vl ≤ 8000 := by rw [← hvl]; exact hbnd.1
      have hfl2 : fl ≤ 64 := by rw [← hfl]; exact hbnd.2.1
      have HLoc2 := Aside0.mk hbnd.2.2
      have HM2 := Aside0.mk (show ∀ x ∈ (s'.fr.map fmS).map th, x.f2.length ≤ 1000000 from fun x hx => by
        obtain ⟨y, hy, rfl⟩ := List.mem_map.1 hx
        obtain ⟨f, hf, rfl⟩ := List.mem_map.1 hy
        exact HLoc2.out f hf)
      have HVL := Aside0.mk hvl
      have HFL := Aside0.mk hfl
      have HFL2 := Aside0.mk (show (s'.fr.map fmS).length = fl by rw [List.length_map, hfl])
      clear hfl0 hlo hbnd hvl hfl
      go_wp2
      refine rg_startL (n := 33) (S := fun w' => True) (bm 33 0) (by kernel_rfl) rfl (by kernel_rfl) (trivial) (fun wd hwd hHeld => ?_)
      refine rg_take (i := 0) (N := some 61) (v := ?_) (a' := ?_) (bm 33 1) rfl rfl (by kernel_rfl) (fun _ _ _ h => h) hHeld (Or.inl ⟨by rfl, ?_⟩) ?_ ?_
      rotate_left
      · intro w' hw'
        go_simp
        with_reducible rfl
      rotate_left
      · simp only [Act.put, List.setIfInBounds_toArray, List.set_cons_zero, List.set_cons_succ]
        rfl
      refine rg_take (i := 1) (N := some 62) (v := ?_) (a' := ?_) (bm 33 3) rfl rfl (by kernel_rfl) (fun _ _ _ h => h) hHeld (Or.inl ⟨by rfl, ?_⟩) ?_ ?_
      rotate_left
      · intro w' hw'
        go_simp
        with_reducible rfl
      rotate_left
      · simp only [Act.put, List.setIfInBounds_toArray, List.set_cons_zero, List.set_cons_succ]
        rfl
      refine rg_take (i := 2) (N := some 63) (v := ?_) (a' := ?_) (bm 33 7) rfl rfl (by kernel_rfl) (fun _ _ _ h => h) hHeld (Or.inl ⟨by rfl, ?_⟩) ?_ ?_
      rotate_left
      · intro w' hw'
        go_simp
        with_reducible rfl
      rotate_left
      · simp only [Act.put, List.setIfInBounds_toArray, List.set_cons_zero, List.set_cons_succ]
        rfl
      refine rg_take (i := 3) (N := some 64) (v := ?_) (a' := ?_) (bm 33 15) rfl rfl (by kernel_rfl) (fun _ _ _ h => h) hHeld (Or.inl ⟨by rfl, ?_⟩) ?_ ?_
      rotate_left
      · intro w' hw'
        go_simp
        with_reducible rfl
      rotate_left
      · simp only [Act.put, List.setIfInBounds_toArray, List.set_cons_zero, List.set_cons_succ]
        rfl
      refine rg_take (i := 5) (N := some 66) (v := ?_) (a' := ?_) (bm 33 47) rfl rfl (by kernel_rfl) (fun _ _ _ h => h) hHeld (Or.inl ⟨by rfl, ?_⟩) ?_ ?_
      rotate_left
      · intro w' hw'
        go_simp
        with_reducible rfl
      rotate_left
      · simp only [Act.put, List.setIfInBounds_toArray, List.set_cons_zero, List.set_cons_succ]
        rfl
      refine rg_take (i := 7) (N := some 68) (v := ?_) (a' := ?_) (bm 33 175) rfl rfl (by kernel_rfl) (fun _ _ _ h => h) hHeld (Or.inl ⟨by rfl, ?_⟩) ?_ ?_
      rotate_left
      · intro w' hw'
        go_simp
        with_reducible rfl
      rotate_left
      · simp only [Act.put, List.setIfInBounds_toArray, List.set_cons_zero, List.set_cons_succ]
        rfl
      refine rg_take (i := 8) (N := some 69) (v := ?_) (a' := ?_) (bm 33 431) rfl rfl (by kernel_rfl) (fun _ _ _ h => h) hHeld (Or.inl ⟨by rfl, ?_⟩) ?_ ?_
      rotate_left
      · intro w' hw'
        go_simp
        with_reducible rfl
      rotate_left
      · simp only [Act.put, List.setIfInBounds_toArray, List.set_cons_zero, List.set_cons_succ]
        rfl
      refine rg_take (i := 9) (N := some 70) (v := ?_) (a' := ?_) (bm 33 943) rfl rfl (by kernel_rfl) (fun _ _ _ h => h) hHeld (Or.inl ⟨by rfl, ?_⟩) ?_ ?_
      rotate_left
      · intro w' hw'
        go_simp
        with_reducible rfl
      rotate_left
      · simp only [Act.put, List.setIfInBounds_toArray, List.set_cons_zero, List.set_cons_succ]
        rfl
      refine rg_ready [4] (by kernel_rfl) (by simp) ?_
      refine rg_one (i := 4) (N := some 65) (bm 33 959) rfl rfl (by kernel_rfl) (fun K hK => ?_) rg_nil
      have HD := Aside0.mk (hwd.out ▸ HDF.out)
      go_simp
      go_at_call 30
      with_reducible refine (frOurs HD.out A1 n c1 fr HN.out HC1.out hc1 (by omega)).mono ?_
      rintro e wx4r16 ⟨A4, c4, rfl, hc4, hs⟩
      have HD4 := Aside0.mk (SB.pick4 (SB.rdArg (Kd.heap_int _) hs HC2.out) [2, 1, 0, 3])
      have hnew : True := trivial
      clear hs
      go_wp2_with fail
      refine hK.out _ _ hnew ?_
      clear hK K
      refine rg_norm (a' := ?_) ?_ ?_
      rotate_left
      · simp only [Act.put, List.setIfInBounds_toArray, List.set_cons_zero, List.set_cons_succ]
        rfl
      clear hHeld
      have hHeld := hnew
      clear hnew
      refine rg_ready [6] (by kernel_rfl) (by simp) ?_
      refine rg_one (i := 6) (N := some 67) (bm 33 1023) rfl rfl (by kernel_rfl) (fun K hK => ?_) rg_nil
      go_simp
      go_at_call 29
      with_reducible refine (frLoad HD4.out HFO.out HM.out hc4 hc2 (by omega) (by omega) HLO.out HLD.out).mono ?_
      rintro e wx4x6r16 ⟨rfl, hs⟩
      have HD6 := Aside0.mk (hs.pick4 [3, 0])
      have hnew : True := trivial
      clear hs
      go_wp2_with fail
      refine hK.out _ _ hnew ?_
      clear hK K
      refine rg_norm (a' := ?_) ?_ ?_
      rotate_left
      · simp only [Act.put, List.setIfInBounds_toArray, List.set_cons_zero, List.set_cons_succ]
        rfl
      clear hHeld
      have hHeld := hnew
      clear hnew
      refine rg_ready [10] (by kernel_rfl) (by simp) ?_
      refine rg_one (i := 10) (N := some 71) (bm 33 2047) rfl rfl (by kernel_rfl) (fun K hK => ?_) rg_nil
      go_simp
      go_at_call 31
      with_reducible refine (xLoad HD6.out HC1.out HC2.out HN.out HM.out hc1 hc2 (by omega) (by omega) HRO.out HLF.out HLD.out).mono ?_
      rintro e wx4x6x10r16 ⟨rfl, hs⟩
      obtain ⟨V, VF, z, hz, h1⟩ := hs.xopen
      obtain ⟨A5, c5, rfl, hc5, _⟩ := (h1.pick2 [1]).reads
      obtain ⟨Af, cf, rfl, hcf, _⟩ := (h1.pick3 [2]).reads
      have hzl : (z.map fm4).length = fl := by rw [List.length_map, ← HFL.out, ← hz, List.length_map]
      rw [HVL.out] at h1 hc5
      rw [hzl] at h1 hcf
      have hb1 := h1.blk
      have hnew : Below w.heap.size w wx4x6x10r16 ∧ wx4x6x10r16.cell? ⟨g, 0, none⟩ = some (.slice A5 vl c5) ∧ wx4x6x10r16.cell? ⟨g, 1, none⟩ = some (.slice Af fl cf) := ⟨h1.bel, blk_cell hb1 0, blk_cell hb1 1⟩
      have himp : ∀ W : World, (Below w.heap.size w W ∧ W.cell? ⟨g, 0, none⟩ = some (.slice A5 vl c5) ∧ W.cell? ⟨g, 1, none⟩ = some (.slice Af fl cf)) → True := fun W h => trivial
      have HZ := Aside0.mk hz
      have HD6 := Aside0.mk (h1.pick5 [4, 0, 1, 2, 3])
      clear hs h1 hb1 hz hzl
      go_wp2_with fail
      refine hK.out _ _ (himp _ hnew) ?_
      clear hK K
      refine rg_norm (a' := ?_) ?_ ?_
      rotate_left
      · simp only [Act.put, List.setIfInBounds_toArray, List.set_cons_zero, List.set_cons_succ]
        rfl
      refine rg_imp himp ?_
      clear himp
      clear hHeld
      have hHeld := hnew
      clear hnew
      refine rg_take (i := 11) (N := some 72) (v := ?_) (a' := ?_) (bm 33 4095) rfl rfl (by kernel_rfl) (fun _ _ _ h => h) hHeld (Or.inl ⟨by rfl, ?_⟩) ?_ ?_
      rotate_left
      · intro w' hw'
        go_simp
        with_reducible rfl
      rotate_left
      · simp only [Act.put, List.setIfInBounds_toArray, List.set_cons_zero, List.set_cons_succ]
        rfl
      refine rg_take (i := 12) (N := some 73) (v := ?_) (a' := ?_) (bm 33 8191) rfl rfl (by kernel_rfl) (fun _ _ _ h => h) hHeld (Or.inl ⟨by rfl, ?_⟩) ?_ ?_
      rotate_left
      · intro w' hw'
        go_simp
        with_reducible rfl
      rotate_left
      · simp only [Act.put, List.setIfInBounds_toArray, List.set_cons_zero, List.set_cons_succ]
        rfl
      refine rg_take (i := 13) (N := some 74) (v := ?_) (a' := ?_) (bm 33 16383) rfl rfl (by kernel_rfl) (fun _ _ _ h => h) hHeld (Or.inl ⟨by rfl, ?_⟩) ?_ ?_
      rotate_left
      · intro w' hw'
        go_simp
        with_reducible rfl
      rotate_left
      · simp only [Act.put, List.setIfInBounds_toArray, List.set_cons_zero, List.set_cons_succ]
        rfl
      refine rg_take (i := 14) (N := some 75) (v := ?_) (a' := ?_) (bm 33 32767) rfl rfl (by kernel_rfl) (fun _ _ _ h => h) hHeld (Or.inl ⟨by rfl, ?_⟩) ?_ ?_
      rotate_left
      · intro w' hw'
        go_simp
        with_reducible rfl
      rotate_left
      · simp only [Act.put, List.setIfInBounds_toArray, List.set_cons_zero, List.set_cons_succ]
        rfl
      refine rg_take (i := 16) (N := some 77) (v := ?_) (a' := ?_) (bm 33 98303) rfl rfl (by kernel_rfl) (fun _ _ _ h => h) hHeld (Or.inl ⟨by rfl, ?_⟩) ?_ ?_
      rotate_left
      · intro w' hw'
        go_simp
        with_reducible rfl
      rotate_left
      · simp only [Act.put, List.setIfInBounds_toArray, List.set_cons_zero, List.set_cons_succ]
        rfl
      refine rg_take (i := 17) (N := some 78) (v := ?_) (a' := ?_) (bm 33 229375) rfl rfl (by kernel_rfl) (fun _ _ _ h => h) hHeld (Or.inl ⟨by rfl, ?_⟩) ?_ ?_
      rotate_left
      · intro w' hw'
        go_simp
        with_reducible rfl
      rotate_left
      · simp only [Act.put, List.setIfInBounds_toArray, List.set_cons_zero, List.set_cons_succ]
        rfl
      refine rg_take (i := 18) (N := some 79) (v := ?_) (a' := ?_) (bm 33 491519) rfl rfl (by kernel_rfl) (fun _ _ _ h => h) hHeld (Or.inl ⟨by rfl, ?_⟩) ?_ ?_
      rotate_left
      · intro w' hw'
        go_simp
        with_reducible rfl
      rotate_left
      · simp only [Act.put, List.setIfInBounds_toArray, List.set_cons_zero, List.set_cons_succ]
        rfl
      refine rg_take (i := 19) (N := some 80) (v := ?_) (a' := ?_) (bm 33 1015807) rfl rfl (by kernel_rfl) (fun _ _ _ h => h) hHeld (Or.inl ⟨by rfl, ?_⟩) ?_ ?_
      rotate_left
      · intro w' hw'
        have t0 := hw'.2.1
        go_simp
        with_reducible rfl
      rotate_left
      · simp only [Act.put, List.setIfInBounds_toArray, List.set_cons_zero, List.set_cons_succ]
        rfl
      refine rg_ready [15] (by kernel_rfl) (by simp) ?_
      refine rg_one (i := 15) (N := some 76) (bm 33 1048575) rfl rfl (by kernel_rfl) (fun K hK => ?_) rg_nil
      go_simp
      go_at_call 16
      with_reducible refine (frVals (p := p) HD6.out (by rw [HVL.out]; omega)).mono ?_
      rintro e wx4x6x10x15r16 ⟨v10, rfl, hs⟩
      obtain ⟨A10, c10, rfl, hc10, _⟩ := hs.reads
      rw [HVL.out] at hs hc10 ⊢
      have hb1 := (hs.pick3 [2]).blk
      have hnew := And.intro hs.bel (And.intro (blk_cell hb1 0) (blk_cell hb1 1))
      have HD10 := Aside0.mk hs
      clear hs hb1
      go_wp2_with fail
      refine hK.out _ _ hnew ?_
      clear hK K
      refine rg_norm (a' := ?_) ?_ ?_
      rotate_left
      · simp only [Act.put, List.setIfInBounds_toArray, List.set_cons_zero, List.set_cons_succ]
        rfl
      clear hHeld
      have hHeld := hnew
      clear hnew
      refine rg_ready [20] (by kernel_rfl) (by simp) ?_
      refine rg_one (i := 20) (N := some 81) (bm 33 2097151) rfl rfl (by kernel_rfl) (fun K hK => ?_) rg_nil
      obtain ⟨Aa, ca, ea, _, hCa⟩ := HD10.out.reads
      obtain ⟨Ab, cb, eb, _, hCb⟩ := (HD10.out.pick4 [3]).reads
      injection ea with ea1 ea2 ea3
      injection eb with eb1 eb2 eb3
      clear ea2 ea3 eb2 eb3
      subst ea1 eb1
      rw [HVL.out] at hCa hCb
      have HCa := Aside0.mk hCa
      have HCb := Aside0.mk hCb
      clear hCa hCb
      go_simp
      go_at_call 15
      with_reducible refine (frWords HD10.out A10 A5 vl c10 c5 s'.v HVL.out HCa.out hc10 HCb.out hc5 (by omega)).mono ?_
      rintro e wx4x6x10x15x20r16 ⟨rfl, hs⟩
      have hb1 := (hs.pick3 [2]).blk
      have hnew := And.intro hs.bel (And.intro (blk_cell hb1 0) (blk_cell hb1 1))
      have HD15 := Aside0.mk hs.drop
      clear hs hb1
      go_wp2_with fail
      refine hK.out _ _ hnew ?_
      clear hK K
      refine rg_norm (a' := ?_) ?_ ?_
      rotate_left
      · simp only [Act.put, List.setIfInBounds_toArray, List.set_cons_zero, List.set_cons_succ]
        rfl
      clear hHeld
      have hHeld := hnew
      clear hnew
      refine rg_take (i := 21) (N := some 82) (v := ?_) (a' := ?_) (bm 33 4194303) rfl rfl (by kernel_rfl) (fun _ _ _ h => h) hHeld (Or.inl ⟨by rfl, ?_⟩) ?_ ?_
      rotate_left
      · intro w' hw'
        go_simp
        with_reducible rfl
      rotate_left
      · simp only [Act.put, List.setIfInBounds_toArray, List.set_cons_zero, List.set_cons_succ]
        rfl
      refine rg_take (i := 22) (N := some 83) (v := ?_) (a' := ?_) (bm 33 8388607) rfl rfl (by kernel_rfl) (fun _ _ _ h => h) hHeld (Or.inl ⟨by rfl, ?_⟩) ?_ ?_
      rotate_left
      · intro w' hw'
        go_simp
        with_reducible rfl
      rotate_left
      · simp only [Act.put, List.setIfInBounds_toArray, List.set_cons_zero, List.set_cons_succ]
        rfl
      refine rg_take (i := 23) (N := some 84) (v := ?_) (a' := ?_) (bm 33 16777215) rfl rfl (by kernel_rfl) (fun _ _ _ h => h) hHeld (Or.inl ⟨by rfl, ?_⟩) ?_ ?_
      rotate_left
      · intro w' hw'
        go_simp
        with_reducible rfl
      rotate_left
      · simp only [Act.put, List.setIfInBounds_toArray, List.set_cons_zero, List.set_cons_succ]
        rfl
      refine rg_take (i := 26) (N := some 87) (v := ?_) (a' := ?_) (bm 33 83886079) rfl rfl (by kernel_rfl) (fun _ _ _ h => h) hHeld (Or.inl ⟨by rfl, ?_⟩) ?_ ?_
      rotate_left
      · intro w' hw'
        go_simp
        with_reducible rfl
      rotate_left
      · simp only [Act.put, List.setIfInBounds_toArray, List.set_cons_zero, List.set_cons_succ]
        rfl
      refine rg_take (i := 27) (N := some 88) (v := ?_) (a' := ?_) (bm 33 218103807) rfl rfl (by kernel_rfl) (fun _ _ _ h => h) hHeld (Or.inl ⟨by rfl, ?_⟩) ?_ ?_
      rotate_left
      · intro w' hw'
        go_simp
        with_reducible rfl
      rotate_left
      · simp only [Act.put, List.setIfInBounds_toArray, List.set_cons_zero, List.set_cons_succ]
        rfl
      refine rg_take (i := 28) (N := some 89) (v := ?_) (a' := ?_) (bm 33 486539263) rfl rfl (by kernel_rfl) (fun _ _ _ h => h) hHeld (Or.inl ⟨by rfl, ?_⟩) ?_ ?_
      rotate_left
      · intro w' hw'
        go_simp
        with_reducible rfl
      rotate_left
      · simp only [Act.put, List.setIfInBounds_toArray, List.set_cons_zero, List.set_cons_succ]
        rfl
      refine rg_take (i := 29) (N := some 90) (v := ?_) (a' := ?_) (bm 33 1023410175) rfl rfl (by kernel_rfl) (fun _ _ _ h => h) hHeld (Or.inl ⟨by rfl, ?_⟩) ?_ ?_
      rotate_left
      · intro w' hw'
        have t1 := hw'.2.2
        go_simp
        with_reducible rfl
      rotate_left
      · simp only [Act.put, List.setIfInBounds_toArray, List.set_cons_zero, List.set_cons_succ]
        rfl
      refine rg_ready [24] (by kernel_rfl) (by simp) ?_
      refine rg_one (i := 24) (N := some 85) (bm 33 1040187391) rfl rfl (by kernel_rfl) (fun K hK => ?_) rg_nil
      go_simp
      go_at_call 21
      with_reducible refine (frFrames (p := p) HD15.out HLoc2.out).mono ?_
      rintro e wx4x6x10x15x20x24r16 ⟨v20, rfl, hs⟩
      obtain ⟨A20, c20, rfl, hc20, _⟩ := hs.reads
      rw [HFL2.out] at hs hc20 ⊢
      have hb1 := (hs.pick3 [2]).blk
      have hnew := And.intro hs.bel (And.intro (blk_cell hb1 0) (blk_cell hb1 1))
      have HD20 := Aside0.mk hs
      clear hs hb1
      go_wp2_with fail
      refine hK.out _ _ hnew ?_
      clear hK K
      refine rg_norm (a' := ?_) ?_ ?_
      rotate_left
      · simp only [Act.put, List.setIfInBounds_toArray, List.set_cons_zero, List.set_cons_succ]
        rfl
      clear hHeld
      have hHeld := hnew
      clear hnew
      refine rg_ready [25] (by kernel_rfl) (by simp) ?_
      refine rg_one (i := 25) (N := some 86) (bm 33 1073741823) rfl rfl (by kernel_rfl) (fun K hK => ?_) rg_nil
      go_simp
      go_at_call 24
      with_reducible refine (frTheirsR HD20.out HFL2.out (by omega)).mono ?_
      rintro e wx4x6x10x15x20x24x25r16 ⟨A21, c21, rfl, hc21, hs⟩
      have hb1 := (hs.pick3 [2]).blk
      have hnew := And.intro hs.bel (And.intro (blk_cell hb1 0) (blk_cell hb1 1))
      have HD21 := Aside0.mk hs
      clear hs hb1
      go_wp2_with fail
      refine hK.out _ _ hnew ?_
      clear hK K
      refine rg_norm (a' := ?_) ?_ ?_
      rotate_left
      · simp only [Act.put, List.setIfInBounds_toArray, List.set_cons_zero, List.set_cons_succ]
        rfl
      clear hHeld
      have hHeld := hnew
      clear hnew
      refine rg_ready [30] (by kernel_rfl) (by simp) ?_
      refine rg_one (i := 30) (N := some 91) (bm 33 2147483647) rfl rfl (by kernel_rfl) (fun K hK => ?_) rg_nil
      have hxf := xo_frames (HD21.out.drop.pick5 [3, 4])
      have hxe : z.map (fun x => fmT x.1) = (s'.fr.map fmS).map th := by rw [← HZ.out, List.map_map, List.map_map]; rfl
      rw [hxe] at hxf
      have HXF := Aside0.mk hxf
      clear hxf hxe
      go_simp
      go_at_call 23
      with_reducible refine (frSame HD21.out A21 Af fl c21 cf _ (by rw [List.length_map, HFL2.out]) HD21.out.rd hc21 HXF.out.1 hcf (by omega) HM2.out).mono ?_
      rintro e wx4x6x10x15x20x24x25x30r16 ⟨rfl, hs⟩
      have hb1 := (hs.pick3 [2]).blk
      have hnew := And.intro hs.bel (And.intro (blk_cell hb1 0) (blk_cell hb1 1))
      have HD26 := Aside0.mk hs.drop
      clear hs hb1
      go_wp2_with fail
      refine hK.out _ _ hnew ?_
      clear hK K
      refine rg_norm (a' := ?_) ?_ ?_
      rotate_left
      · simp only [Act.put, List.setIfInBounds_toArray, List.set_cons_zero, List.set_cons_succ]
        rfl
      clear hHeld
      have hHeld := hnew
      clear hnew
      refine rg_take (i := 31) (N := some 92) (v := ?_) (a' := ?_) (bm 33 4294967295) rfl rfl (by kernel_rfl) (fun _ _ _ h => h) hHeld (Or.inl ⟨by rfl, ?_⟩) ?_ ?_
      rotate_left
      · intro w' hw'
        go_simp
        with_reducible rfl
      rotate_left
      · simp only [Act.put, List.setIfInBounds_toArray, List.set_cons_zero, List.set_cons_succ]
        rfl
      refine rg_take (i := 32) (N := some 8) (v := ?_) (a' := ?_) (bm 33 8589934591) rfl rfl (by kernel_rfl) (fun _ _ _ h => h) hHeld (Or.inl ⟨by rfl, ?_⟩) ?_ ?_
      rotate_left
      · intro w' hw'
        go_simp
        with_reducible rfl
      rotate_left
      · simp only [Act.put, List.setIfInBounds_toArray, List.set_cons_zero, List.set_cons_succ]
        rfl
      refine rg_done (by kernel_rfl) ?_
      go_wp2
      go_ret
      exact ⟨rfl, HD26.out.bel⟩
def avocetlaw17_FramesLoad.f (a0 : Int) (l1 : List (S44)) (l2 : List (S61)) (l3 : List Int) : Option (Bool) := if (∀ x ∈ l1, okA x) then some true else none
theorem avocetlaw17_FramesLoad.calls (a0 : Int) (A1 : Option Addr) (c1 : Nat) (l1 : List (S44)) (A2 : Option Addr) (c2 : Nat) (l2 : List (S61)) (A3 : Option Addr) (c3 : Nat) (l3 : List Int) (r : Bool) (w : World) (hr1 : Kd.C k44 w A1 l1.length l1) (hc1 : l1.length ≤ c1) (hr2 : Kd.C k61 w A2 l2.length l2) (hc2 : l2.length ≤ c2) (hr3 : Kd.C (Kd.int .u64) w A3 l3.length l3) (hc3 : l3.length ≤ c3) (hr_ : r = true) (h : avocetlaw17_FramesLoad.f a0 l1 l2 l3 = some r) :
    Calls Try.prog 8 #[.int .i64 a0, .slice A1 l1.length c1, .slice A2 l2.length c2, .slice A3 l3.length c3] w fun e w' => e = .returned (.bool r) ∧ Below w.heap.size w w' := by
  subst hr_
  by_cases hn : (∀ x ∈ l1, okA x)
  · exact framesLoad a0 l1 A1 c1 l2 A2 c2 l3 A3 c3 w hr1 hc1 hr2 hc2 hr3 hc3 hn
  · unfold avocetlaw17_FramesLoad.f at h
    rw [if_neg hn] at h
    simp at h
end Go.Proofs.Ytbbgkelcdooabaa.G
