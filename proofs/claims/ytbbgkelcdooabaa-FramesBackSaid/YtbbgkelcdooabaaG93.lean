/- FramesBack: what is told goes on. -/
import Derived.Deep.DeepMust
import Derived.Test.YtbbgkelcdooabaaFraK
import Derived.Test.YtbbgkelcdooabaaFraR
namespace Go.Proofs.Ytbbgkelcdooabaa.G
open Go.RowKit Go.Proofs.YtbbgkelcdooabaaW.PrintWords Go.Proofs.YtbbgkelcdooabaaW.PrintLast Go.Proofs.YtbbgkelcdooabaaW.PrintMore
set_option linter.unusedVariables false
set_option linter.unusedSimpArgs false
def okA (x : S44) : Prop := -9223372036854775808 ≤ x.f3 ∧ x.f3 < 9223372036854775808
instance (x : S44) : Decidable (okA x) := by unfold okA; infer_instance
theorem okB_of (n : Int) : ∀ (l : List S58) (last : Int), (∀ x ∈ l, last ≤ x.f3 ∧ x.f3 ≤ n) → l.Pairwise (fun a b => a.f3 ≤ b.f3) → okB n last l = true
  | [], _, _, _ => rfl
  | x :: l, last, h, hp => by
    have h1 := h x (by simp)
    rw [okB_cons, if_neg (by omega), if_neg (by omega)]
    have hp := List.pairwise_cons.1 hp
    exact okB_of n l x.f3 (fun y hy => ⟨hp.1 y hy, (h y (by simp [hy])).2⟩) hp.2
theorem load_self {s : FS} {B : Nat} (h : Inv s B) (hr : s.room = 20) : fLoad ⟨[], [], 20⟩ (s.fr.map fmS) s.v = (s, true) := by
  have hf := h.fl
  rw [hr] at hf
  unfold fLoad
  rw [if_neg (by rw [List.length_map]; show ¬ (20 : Int) < _; omega), if_pos]
  · have : (s.fr.map fmS).map sFm = s.fr := by
      rw [List.map_map]
      exact List.map_id' _
    rw [this]
    cases s
    simp at hr
    rw [hr]
  · refine okB_of _ _ _ (fun x hx => ?_) ?_
    · obtain ⟨f, hf, rfl⟩ := List.mem_map.1 hx
      exact h.nn f hf
    · exact List.pairwise_map.2 h.mono
set_option maxHeartbeats 8000000 in
set_option maxRecDepth 100000 in
theorem framesBack (l : List S44) (A0 : Option Addr) (c0 : Nat) (m : List S44) (A2 : Option Addr) (c2 : Nat) (w : World)
    (hC0 : Kd.C k44 w A0 l.length l) (hc0 : l.length ≤ c0) (hC2 : Kd.C k44 w A2 m.length m) (hc2 : m.length ≤ c2) (hok0 : ∀ x ∈ l, okA x) (hok2 : ∀ x ∈ m, okA x) :
    Calls Try.prog 7 #[.slice A0 l.length c0, .slice A2 m.length c2] w fun e w' => e = .returned (.bool true) ∧ Below w.heap.size w w' := by
  have HC0 := Aside0.mk hC0
  have HC2 := Aside0.mk hC2
  have HOK0 := Aside0.mk hok0
  have HOK2 := Aside0.mk hok2
  clear hC0 hC2 hok0 hok2
  obtain ⟨sm, hsm⟩ : ∃ sm, smallB l = sm := ⟨_, rfl⟩
  obtain ⟨sm2, hsm2⟩ : ∃ sm, smallB m = sm := ⟨_, rfl⟩
  have HSM := Aside0.mk hsm
  have HSM2 := Aside0.mk hsm2
  clear hsm hsm2
  cases sm with
  | false =>
    go_enter Try.func7, Try.ntmps7
    go_wp2_with (first
      | (go_at_call 9; (with_reducible refine (awake _).mono ?_); rintro e w1 ⟨rfl, hb⟩; have HB := Aside0.mk ((SB.start w).below hb); clear hb)
      | (go_at_call 19; (with_reducible refine (frSmall HB.out A0 c0 l (Kd.C_below HC0.out HB.out.bel) hc0).mono ?_); rintro e w2 ⟨rfl, hs⟩; rw [HSM.out]; have HB2 := Aside0.mk hs; clear hs))
    go_ret
    exact ⟨rfl, HB2.out.bel⟩
  | true =>
  cases sm2 with
  | false =>
    go_enter Try.func7, Try.ntmps7
    go_wp2_with (first
      | (go_at_call 9; (with_reducible refine (awake _).mono ?_); rintro e w1 ⟨rfl, hb⟩; have HB := Aside0.mk ((SB.start w).below hb); clear hb)
      | (go_at_call 19; (with_reducible refine (frSmall HB.out A0 c0 l (Kd.C_below HC0.out HB.out.bel) hc0).mono ?_); rintro e w2 ⟨rfl, hs⟩; rw [HSM.out]; have HB2 := Aside0.mk hs; clear hs)
      | (go_at_call 19; (with_reducible refine (frSmall HB2.out A2 c2 m (Kd.C_below HC2.out HB2.out.bel) hc2).mono ?_); rintro e w3 ⟨rfl, hs⟩; rw [HSM2.out]; have HB3 := Aside0.mk hs; clear hs))
    go_ret
    exact ⟨rfl, HB3.out.bel⟩
  | true =>
  have hll := (smallB_iff HSM.out).1
  have hml := (smallB_iff HSM2.out).1
  go_enter Try.func7, Try.ntmps7
  go_wp2_with (first
    | (go_at_call 9; (with_reducible refine (awake _).mono ?_); rintro e w1 ⟨rfl, hb⟩; have HB := Aside0.mk ((SB.start w).below hb); clear hb)
    | (go_at_call 19; (with_reducible refine (frSmall HB.out A0 c0 l (Kd.C_below HC0.out HB.out.bel) hc0).mono ?_); rintro e w2 ⟨rfl, hs⟩; rw [HSM.out]; have HB2 := Aside0.mk hs; clear hs)
    | (go_at_call 19; (with_reducible refine (frSmall HB2.out A2 c2 m (Kd.C_below HC2.out HB2.out.bel) hc2).mono ?_); rintro e w3 ⟨rfl, hs⟩; rw [HSM2.out]; have HB3 := Aside0.mk hs; clear hs)
    | (go_at_call 10; go_must ((with_reducible refine (frNewS HB3.out 20).mono ?_); rintro e w4 ⟨rfl, hs⟩; obtain ⟨p, hp⟩ : ∃ p, w3.heap.size = p := ⟨_, rfl⟩; rw [hp] at hs ⊢; have HS4 := Aside0.mk (show SB w w4 [FO p ⟨[], [], 20⟩] from hs); clear hs hp)))
  go_loopw [7] (fun v9 wr => ∃ (i : Nat) (s : FS), v9 = .int .i64 i ∧ i ≤ l.length ∧ Aside0 (Inv s (40 * i) ∧ s.room = 20) ∧ Aside0 (SB w wr [FO p s])) (fun v9 _ => l.length - (intOf v9).toNat)
  case atStart => exact ⟨0, ⟨[], [], 20⟩, rfl, Nat.zero_le _, ⟨inv_new 20, rfl⟩, HS4⟩
  case round =>
    obtain ⟨i, s, rfl, hi, HI, HR⟩ := hrel
    by_cases hlt : i < l.length
    · have e1 : decide ((i : Int) < (l.length : Int)) = true := decide_eq_true (by omega)
      have e2 : decide (i < l.length) = true := decide_eq_true hlt
      obtain ⟨x, hx⟩ : ∃ x, l[i] = x := ⟨_, rfl⟩
      have hxm : x ∈ l := by rw [← hx]; exact List.getElem_mem _
      have HX := Aside0.mk (And.intro (show -9223372036854775808 ≤ x.f3 ∧ x.f3 < 9223372036854775808 from HOK0.out x hxm) ((smallB_iff HSM.out).2 x hxm))
      have hat := at_T44 (Kd.C_below HC0.out HR.out.bel) (i : Int) (by omega) (by omega)
      rw [rd44 hlt, hx, Int.toNat_natCast] at hat
      obtain ⟨ad, A6, c6, rfl, q0, q1, q2, q3, q4, q5, q6, l6, g6⟩ := hat
      have HG := Aside0.mk g6
      clear hxm hx g6
      go_wp2_with (go_at_call 20; go_must ((with_reducible refine (frDo HR.out x A6 c6 HG.out l6 (by have := HI.out.1.vl; have := HX.out.2.1; omega) (Int.le_trans HX.out.2.2 (by decide)) HX.out.1).mono ?_); rintro e w5 ⟨rfl, hs⟩; have HR5 := Aside0.mk hs; clear hs))
      have hd := inv_do HI.out.1 x HX.out.2.2
      refine ⟨⟨i + 1, (fDo s x).1, by simp, by omega, ⟨hd.1.up (Nat.le_trans (Nat.add_le_add_left HX.out.2.1 _) (by omega)), by rw [hd.2.1]; exact HI.out.2⟩, HR5⟩, by simp [intOf]; omega⟩
    · have e1 : decide ((i : Int) < (l.length : Int)) = false := decide_eq_false (by omega)
      have e2 : decide (i < l.length) = false := decide_eq_false hlt
      have HI := Aside0.mk (And.intro (HI.out.1.up (B' := 4000) (by omega)) HI.out.2)
      obtain ⟨was, hwas⟩ : ∃ was, s.v = was := ⟨_, rfl⟩
      obtain ⟨fr0, hfr0⟩ : ∃ fr0, s.fr = fr0 := ⟨_, rfl⟩
      obtain ⟨k, hk⟩ : ∃ k, fr0.length = k := ⟨_, rfl⟩
      obtain ⟨wl, hwl⟩ : ∃ k, was.length = k := ⟨_, rfl⟩
      obtain rfl : s = ⟨was, fr0, 20⟩ := by have := HI.out.2; cases s; simp_all
      clear hwas hfr0
      have HI := HI.out.1
      have hk64 : k ≤ 20 := by have := HI.fl; rw [show (FS.mk was fr0 20).fr.length = k from hk, show (FS.mk was fr0 20).room = 20 from rfl] at this; omega
      have hwl4 : wl ≤ 4000 := by rw [← hwl]; exact HI.vl
      have HLoc := Aside0.mk (show ∀ f ∈ fr0, f.loc.length ≤ 4100 from HI.loc)
      have HLS := Aside0.mk (show fLoad ⟨[], [], 20⟩ (fr0.map fmS) was = (⟨was, fr0, 20⟩, true) from load_self HI rfl)
      have HIV := Aside0.mk HI
      have HWL := Aside0.mk hwl
      have HFL := Aside0.mk (show (fr0.map fmS).length = k by rw [List.length_map, hk])
      have HM := Aside0.mk (show ∀ x ∈ fr0.map fmS, x.f2.length ≤ 1000000 from fun y hy => by
        obtain ⟨f, hf, rfl⟩ := List.mem_map.1 hy
        have := HLoc.out f hf
        show f.loc.length ≤ 1000000
        omega)
      clear hwl hk
      go_wp2_with (first
        | (go_at_call 10; go_must ((with_reducible refine (frNewS HR.out 20).mono ?_); rintro e w4 ⟨rfl, hs⟩; obtain ⟨q, hq⟩ : ∃ q, wr.heap.size = q := ⟨_, rfl⟩; rw [hq] at hs ⊢; have HS5 := Aside0.mk (show SB w w4 [FO q ⟨[], [], 20⟩, FO p ⟨was, fr0, 20⟩] from hs); clear hs hq))
        | (go_at_call 21; go_must ((with_reducible refine (frFrames HS5.out.swap (fun f hf => by have := HLoc.out f hf; omega)).mono ?_); rintro e w6 ⟨v6, rfl, hs⟩; obtain ⟨A6, c6, rfl, hc6, hC6⟩ := hs.reads; rw [show (List.map fmS (FS.mk was fr0 20).fr).length = k from HFL.out] at hs hc6 ⊢; clear hC6; have HR6 := Aside0.mk (show SB w w6 [Row k58 58 (.slice A6 k c6) (fr0.map fmS), FO p ⟨was, fr0, 20⟩, FO q ⟨[], [], 20⟩] from hs); clear hs))
        | (go_at_call 16; go_must ((with_reducible refine (frVals HR6.out.swap (by show was.length ≤ 1000000; rw [HWL.out]; omega)).mono ?_); rintro e w5 ⟨v5, rfl, hs⟩; obtain ⟨A5, c5, rfl, hc5, hC5⟩ := hs.reads; rw [show (FS.mk was fr0 20).v.length = wl from HWL.out] at hs hc5 ⊢; clear hC5; have HR5 := Aside0.mk (show SB w w5 [Row (Kd.int .u64) 35 (.slice A5 wl c5) was, FO p ⟨was, fr0, 20⟩, Row k58 58 (.slice A6 k c6) (fr0.map fmS), FO q ⟨[], [], 20⟩] from hs); clear hs))
        | (go_at_call 29; go_must ((with_reducible refine (frLoad ((HR5.out.toRd.pick3 [2, 0, 1]).toRd.pick4 [3, 0, 1, 2]) HFL.out HWL.out hc6 hc5 (by omega) (by omega) HM.out HLS.out).mono ?_); rintro e w7 ⟨rfl, hs⟩; have HR7 := Aside0.mk (show SB w w7 [FO p ⟨was, fr0, 20⟩, FO q ⟨was, fr0, 20⟩] from hs.pick4 [3, 0]); clear hs)))
      go_loopw [10] (fun v10 wr => ∃ (j : Nat) (s : FS), v10 = .int .i64 j ∧ j ≤ m.length ∧ Aside0 (Inv s (4000 + 40 * j) ∧ s.room = 20) ∧ Aside0 (SB w wr [FO p s, FO q s])) (fun v10 _ => m.length - (intOf v10).toNat)
      case atStart => exact ⟨0, _, rfl, Nat.zero_le _, ⟨HIV.out, rfl⟩, HR7⟩
      case round =>
        obtain ⟨j, s, rfl, hj, HI2, HR2⟩ := hrel
        by_cases hlt2 : j < m.length
        · have e3 : decide ((j : Int) < (m.length : Int)) = true := decide_eq_true (by omega)
          have e4 : decide (j < m.length) = true := decide_eq_true hlt2
          obtain ⟨x, hx⟩ : ∃ x, m[j] = x := ⟨_, rfl⟩
          have hxm : x ∈ m := by rw [← hx]; exact List.getElem_mem _
          have HX := Aside0.mk (And.intro (show -9223372036854775808 ≤ x.f3 ∧ x.f3 < 9223372036854775808 from HOK2.out x hxm) ((smallB_iff HSM2.out).2 x hxm))
          have hat := at_T44 HC2.out (j : Int) (by omega) (by omega)
          rw [rd44 hlt2, hx, Int.toNat_natCast] at hat
          obtain ⟨ad, A8, c8, rfl, q0, q1, q2, q3, q4, q5, q6, l8, g8⟩ := hat
          have HQ := Aside0.mk (And.intro q0 (And.intro q1 (And.intro q2 (And.intro q3 (And.intro q4 (And.intro q5 q6))))))
          have HG := Aside0.mk g8
          have hB : s.v.length + x.f6.length ≤ 1000000 := by have := HI2.out.1.vl; have := HX.out.2.1; omega
          have HDF := Aside0.mk HR2.out.drew
          obtain ⟨s', hs'⟩ : ∃ s', (fDo s x).1 = s' := ⟨_, rfl⟩
          obtain ⟨b', hb'⟩ : ∃ b', (fDo s x).2 = b' := ⟨_, rfl⟩
          have HS' := Aside0.mk hs'
          have HB' := Aside0.mk hb'
          have HDO := Aside0.mk (fun (W : World) (P Q : Nat) (L : List As) (h : SB w W (FO P s :: L)) => (by
            have := frDo h x A8 c8 (Kd.C_below HG.out h.bel) l8 hB (Int.le_trans HX.out.2.2 (by decide)) HX.out.1
            rw [hs', hb'] at this
            exact this))
          clear hxm hx g8 q0 q1 q2 q3 q4 q5 q6 hs' hb'
          go_wp2
          refine rg_startL (n := 13) (S := fun w' => Below w.heap.size w w') (bm 13 0) (by kernel_rfl) rfl (by kernel_rfl) (HDF.out.bel) (fun wd hwd hHeld => ?_)
          refine rg_take (i := 0) (N := some 47) (v := ?_) (a' := ?_) (bm 13 1) rfl rfl (by kernel_rfl) (fun _ _ _ h => h) hHeld (Or.inl ⟨by rfl, ?_⟩) ?_ ?_
          rotate_left
          · intro w' hw'
            have s0 := pw_cell_below hw' HQ.out.1
            have s1 := pw_cell_below hw' HQ.out.2.1
            have s2 := pw_cell_below hw' HQ.out.2.2.1
            have s3 := pw_cell_below hw' HQ.out.2.2.2.1
            have s4 := pw_cell_below hw' HQ.out.2.2.2.2.1
            have s5 := pw_cell_below hw' HQ.out.2.2.2.2.2.1
            have s6 := pw_cell_below hw' HQ.out.2.2.2.2.2.2
            go_simp
            with_reducible rfl
          rotate_left
          · simp only [Act.put, List.setIfInBounds_toArray, List.set_cons_zero, List.set_cons_succ]
            rfl
          refine rg_take (i := 1) (N := some 48) (v := ?_) (a' := ?_) (bm 13 3) rfl rfl (by kernel_rfl) (fun _ _ _ h => h) hHeld (Or.inl ⟨by rfl, ?_⟩) ?_ ?_
          rotate_left
          · intro w' hw'
            have s0 := pw_cell_below hw' HQ.out.1
            have s1 := pw_cell_below hw' HQ.out.2.1
            have s2 := pw_cell_below hw' HQ.out.2.2.1
            have s3 := pw_cell_below hw' HQ.out.2.2.2.1
            have s4 := pw_cell_below hw' HQ.out.2.2.2.2.1
            have s5 := pw_cell_below hw' HQ.out.2.2.2.2.2.1
            have s6 := pw_cell_below hw' HQ.out.2.2.2.2.2.2
            go_simp
            with_reducible rfl
          rotate_left
          · simp only [Act.put, List.setIfInBounds_toArray, List.set_cons_zero, List.set_cons_succ]
            rfl
          refine rg_take (i := 2) (N := some 49) (v := ?_) (a' := ?_) (bm 13 7) rfl rfl (by kernel_rfl) (fun _ _ _ h => h) hHeld (Or.inl ⟨by rfl, ?_⟩) ?_ ?_
          rotate_left
          · intro w' hw'
            have s0 := pw_cell_below hw' HQ.out.1
            have s1 := pw_cell_below hw' HQ.out.2.1
            have s2 := pw_cell_below hw' HQ.out.2.2.1
            have s3 := pw_cell_below hw' HQ.out.2.2.2.1
            have s4 := pw_cell_below hw' HQ.out.2.2.2.2.1
            have s5 := pw_cell_below hw' HQ.out.2.2.2.2.2.1
            have s6 := pw_cell_below hw' HQ.out.2.2.2.2.2.2
            go_simp
            with_reducible rfl
          rotate_left
          · simp only [Act.put, List.setIfInBounds_toArray, List.set_cons_zero, List.set_cons_succ]
            rfl
          refine rg_take (i := 3) (N := some 50) (v := ?_) (a' := ?_) (bm 13 15) rfl rfl (by kernel_rfl) (fun _ _ _ h => h) hHeld (Or.inl ⟨by rfl, ?_⟩) ?_ ?_
          rotate_left
          · intro w' hw'
            have s0 := pw_cell_below hw' HQ.out.1
            have s1 := pw_cell_below hw' HQ.out.2.1
            have s2 := pw_cell_below hw' HQ.out.2.2.1
            have s3 := pw_cell_below hw' HQ.out.2.2.2.1
            have s4 := pw_cell_below hw' HQ.out.2.2.2.2.1
            have s5 := pw_cell_below hw' HQ.out.2.2.2.2.2.1
            have s6 := pw_cell_below hw' HQ.out.2.2.2.2.2.2
            go_simp
            with_reducible rfl
          rotate_left
          · simp only [Act.put, List.setIfInBounds_toArray, List.set_cons_zero, List.set_cons_succ]
            rfl
          refine rg_take (i := 4) (N := some 51) (v := ?_) (a' := ?_) (bm 13 31) rfl rfl (by kernel_rfl) (fun _ _ _ h => h) hHeld (Or.inl ⟨by rfl, ?_⟩) ?_ ?_
          rotate_left
          · intro w' hw'
            have s0 := pw_cell_below hw' HQ.out.1
            have s1 := pw_cell_below hw' HQ.out.2.1
            have s2 := pw_cell_below hw' HQ.out.2.2.1
            have s3 := pw_cell_below hw' HQ.out.2.2.2.1
            have s4 := pw_cell_below hw' HQ.out.2.2.2.2.1
            have s5 := pw_cell_below hw' HQ.out.2.2.2.2.2.1
            have s6 := pw_cell_below hw' HQ.out.2.2.2.2.2.2
            go_simp
            with_reducible rfl
          rotate_left
          · simp only [Act.put, List.setIfInBounds_toArray, List.set_cons_zero, List.set_cons_succ]
            rfl
          refine rg_take (i := 6) (N := some 53) (v := ?_) (a' := ?_) (bm 13 95) rfl rfl (by kernel_rfl) (fun _ _ _ h => h) hHeld (Or.inl ⟨by rfl, ?_⟩) ?_ ?_
          rotate_left
          · intro w' hw'
            have s0 := pw_cell_below hw' HQ.out.1
            have s1 := pw_cell_below hw' HQ.out.2.1
            have s2 := pw_cell_below hw' HQ.out.2.2.1
            have s3 := pw_cell_below hw' HQ.out.2.2.2.1
            have s4 := pw_cell_below hw' HQ.out.2.2.2.2.1
            have s5 := pw_cell_below hw' HQ.out.2.2.2.2.2.1
            have s6 := pw_cell_below hw' HQ.out.2.2.2.2.2.2
            go_simp
            with_reducible rfl
          rotate_left
          · simp only [Act.put, List.setIfInBounds_toArray, List.set_cons_zero, List.set_cons_succ]
            rfl
          refine rg_take (i := 7) (N := some 54) (v := ?_) (a' := ?_) (bm 13 223) rfl rfl (by kernel_rfl) (fun _ _ _ h => h) hHeld (Or.inl ⟨by rfl, ?_⟩) ?_ ?_
          rotate_left
          · intro w' hw'
            have s0 := pw_cell_below hw' HQ.out.1
            have s1 := pw_cell_below hw' HQ.out.2.1
            have s2 := pw_cell_below hw' HQ.out.2.2.1
            have s3 := pw_cell_below hw' HQ.out.2.2.2.1
            have s4 := pw_cell_below hw' HQ.out.2.2.2.2.1
            have s5 := pw_cell_below hw' HQ.out.2.2.2.2.2.1
            have s6 := pw_cell_below hw' HQ.out.2.2.2.2.2.2
            go_simp
            with_reducible rfl
          rotate_left
          · simp only [Act.put, List.setIfInBounds_toArray, List.set_cons_zero, List.set_cons_succ]
            rfl
          refine rg_take (i := 8) (N := some 55) (v := ?_) (a' := ?_) (bm 13 479) rfl rfl (by kernel_rfl) (fun _ _ _ h => h) hHeld (Or.inl ⟨by rfl, ?_⟩) ?_ ?_
          rotate_left
          · intro w' hw'
            have s0 := pw_cell_below hw' HQ.out.1
            have s1 := pw_cell_below hw' HQ.out.2.1
            have s2 := pw_cell_below hw' HQ.out.2.2.1
            have s3 := pw_cell_below hw' HQ.out.2.2.2.1
            have s4 := pw_cell_below hw' HQ.out.2.2.2.2.1
            have s5 := pw_cell_below hw' HQ.out.2.2.2.2.2.1
            have s6 := pw_cell_below hw' HQ.out.2.2.2.2.2.2
            go_simp
            with_reducible rfl
          rotate_left
          · simp only [Act.put, List.setIfInBounds_toArray, List.set_cons_zero, List.set_cons_succ]
            rfl
          refine rg_take (i := 9) (N := some 56) (v := ?_) (a' := ?_) (bm 13 991) rfl rfl (by kernel_rfl) (fun _ _ _ h => h) hHeld (Or.inl ⟨by rfl, ?_⟩) ?_ ?_
          rotate_left
          · intro w' hw'
            have s0 := pw_cell_below hw' HQ.out.1
            have s1 := pw_cell_below hw' HQ.out.2.1
            have s2 := pw_cell_below hw' HQ.out.2.2.1
            have s3 := pw_cell_below hw' HQ.out.2.2.2.1
            have s4 := pw_cell_below hw' HQ.out.2.2.2.2.1
            have s5 := pw_cell_below hw' HQ.out.2.2.2.2.2.1
            have s6 := pw_cell_below hw' HQ.out.2.2.2.2.2.2
            go_simp
            with_reducible rfl
          rotate_left
          · simp only [Act.put, List.setIfInBounds_toArray, List.set_cons_zero, List.set_cons_succ]
            rfl
          refine rg_take (i := 10) (N := some 57) (v := ?_) (a' := ?_) (bm 13 2015) rfl rfl (by kernel_rfl) (fun _ _ _ h => h) hHeld (Or.inl ⟨by rfl, ?_⟩) ?_ ?_
          rotate_left
          · intro w' hw'
            have s0 := pw_cell_below hw' HQ.out.1
            have s1 := pw_cell_below hw' HQ.out.2.1
            have s2 := pw_cell_below hw' HQ.out.2.2.1
            have s3 := pw_cell_below hw' HQ.out.2.2.2.1
            have s4 := pw_cell_below hw' HQ.out.2.2.2.2.1
            have s5 := pw_cell_below hw' HQ.out.2.2.2.2.2.1
            have s6 := pw_cell_below hw' HQ.out.2.2.2.2.2.2
            go_simp
            with_reducible rfl
          rotate_left
          · simp only [Act.put, List.setIfInBounds_toArray, List.set_cons_zero, List.set_cons_succ]
            rfl
          refine rg_ready [5] (by kernel_rfl) (by simp) ?_
          refine rg_one (i := 5) (N := some 52) (bm 13 2047) rfl rfl (by kernel_rfl) (fun K hK => ?_) rg_nil
          have HD := Aside0.mk (hwd.out ▸ HDF.out)
          go_simp
          go_at_call 20
          with_reducible refine (HDO.out _ p 0 _ HD.out).mono ?_
          rintro e wx5r14 ⟨rfl, hs⟩
          have HD5 := Aside0.mk hs.swap
          have hnew := hs.bel
          clear hs
          go_wp2_with fail
          refine hK.out _ _ hnew ?_
          clear hK K
          refine rg_norm (a' := ?_) ?_ ?_
          rotate_left
          · simp only [Act.put, List.setIfInBounds_toArray, List.set_cons_zero, List.set_cons_succ]
            rfl
          clear hHeld
          have hHeld := hnew
          clear hnew
          refine rg_ready [11] (by kernel_rfl) (by simp) ?_
          refine rg_one (i := 11) (N := some 58) (bm 13 4095) rfl rfl (by kernel_rfl) (fun K hK => ?_) rg_nil
          go_simp
          go_at_call 20
          with_reducible refine (HDO.out _ q 0 _ HD5.out).mono ?_
          rintro e wx5x11r14 ⟨rfl, hs⟩
          have HD11 := Aside0.mk hs.swap
          have hnew := hs.bel
          clear hs
          go_wp2_with fail
          refine hK.out _ _ hnew ?_
          clear hK K
          refine rg_norm (a' := ?_) ?_ ?_
          rotate_left
          · simp only [Act.put, List.setIfInBounds_toArray, List.set_cons_zero, List.set_cons_succ]
            rfl
          clear hHeld
          have hHeld := hnew
          clear hnew
          refine rg_take (i := 12) (N := some 59) (v := ?_) (a' := ?_) (bm 13 8191) rfl rfl (by kernel_rfl) (fun _ _ _ h => h) hHeld (Or.inl ⟨by rfl, ?_⟩) ?_ ?_
          rotate_left
          · intro w' hw'
            have s0 := pw_cell_below hw' HQ.out.1
            have s1 := pw_cell_below hw' HQ.out.2.1
            have s2 := pw_cell_below hw' HQ.out.2.2.1
            have s3 := pw_cell_below hw' HQ.out.2.2.2.1
            have s4 := pw_cell_below hw' HQ.out.2.2.2.2.1
            have s5 := pw_cell_below hw' HQ.out.2.2.2.2.2.1
            have s6 := pw_cell_below hw' HQ.out.2.2.2.2.2.2
            go_simp
            with_reducible rfl
          rotate_left
          · simp only [Act.put, List.setIfInBounds_toArray, List.set_cons_zero, List.set_cons_succ]
            rfl
          refine rg_done (by kernel_rfl) ?_
          go_wp2
          have hd := inv_do HI2.out.1 x HX.out.2.2
          rw [HS'.out] at hd
          refine ⟨⟨j + 1, s', by simp, by omega, ⟨hd.1.up (Nat.le_trans (Nat.add_le_add_left HX.out.2.1 _) (by omega)), by rw [hd.2.1]; exact HI2.out.2⟩, HD11⟩, by simp [intOf]; omega⟩
        · have e3 : decide ((j : Int) < (m.length : Int)) = false := decide_eq_false (by omega)
          have e4 : decide (j < m.length) = false := decide_eq_false hlt2
          have HI2 := Aside0.mk (And.intro (HI2.out.1.up (B' := 8000) (by omega)) HI2.out.2)
          obtain ⟨vl, hvl⟩ : ∃ k, s.v.length = k := ⟨_, rfl⟩
          obtain ⟨fl, hfl⟩ : ∃ k, (s.fr.map fmS).length = k := ⟨_, rfl⟩
          have hvl8 : vl ≤ 8000 := by rw [← hvl]; exact HI2.out.1.vl
          have hfl2 : fl ≤ 20 := by have := HI2.out.1.fl; rw [HI2.out.2] at this; rw [← hfl, List.length_map]; omega
          have HLoc2 := Aside0.mk (show ∀ f ∈ s.fr, f.loc.length ≤ 1000000 from fun f hf => by have := HI2.out.1.loc f hf; omega)
          have HM2 := Aside0.mk (show ∀ x ∈ (s.fr.map fmS).map th, x.f2.length ≤ 1000000 from fun x hx => by
            obtain ⟨y, hy, rfl⟩ := List.mem_map.1 hx
            obtain ⟨f, hf, rfl⟩ := List.mem_map.1 hy
            exact HLoc2.out f hf)
          have HVL := Aside0.mk hvl
          have HFL2 := Aside0.mk hfl
          clear hvl hfl
          go_wp2_with (first
            | (go_at_call 16; ((with_reducible refine (frVals (p := p) HR2.out (by rw [HVL.out]; omega)).mono ?_); rintro e w20 ⟨v20, rfl, hs⟩; obtain ⟨A20, c20, rfl, hc20, hC20⟩ := hs.reads; rw [HVL.out] at hs hc20 hC20 ⊢; have HC20 := Aside0.mk hC20; have HS20 := Aside0.mk hs; clear hs hC20))
            | (go_at_call 16; go_must ((with_reducible refine (frVals (p := q) (HS20.out.pick3 [2, 1, 0]) (by rw [HVL.out]; omega)).mono ?_); rintro e w21 ⟨v21, rfl, hs⟩; obtain ⟨A21, c21, rfl, hc21, hC21⟩ := hs.reads; obtain ⟨Ab, cb, eb, _, hC20b⟩ := (hs.pick4 [3]).reads; injection eb with eb1 eb2 eb3; clear eb2 eb3; subst eb1; rw [HVL.out] at hs hc21 hC21 hC20b ⊢; have HC21 := Aside0.mk hC21; have HC20b := Aside0.mk hC20b; have HS21 := Aside0.mk hs; clear hs hC21 hC20b))
            | (go_at_call 15; go_must ((with_reducible refine (frWords (HS21.out.pick3 [2, 1]) A20 A21 vl c20 c21 s.v HVL.out HC20b.out hc20 HC21.out hc21 (by omega)).mono ?_); rintro e w22 ⟨rfl, hs⟩; have HS22 := Aside0.mk hs; clear hs))
            | (go_at_call 21; ((with_reducible refine (frFrames (p := p) HS22.out HLoc2.out).mono ?_); rintro e w23 ⟨v23, rfl, hs⟩; have HS23 := Aside0.mk hs; clear hs))
            | (go_at_call 24; ((with_reducible refine (frTheirsR HS23.out HFL2.out (by omega)).mono ?_); rintro e w24 ⟨A24, c24, rfl, hc24, hs⟩; have HS24 := Aside0.mk hs; clear hs))
            | (go_at_call 21; go_must ((with_reducible refine (frFrames (p := q) (HS24.out.pick3 [2, 0]) HLoc2.out).mono ?_); rintro e w25 ⟨v25, rfl, hs⟩; have HS25 := Aside0.mk hs; clear hs))
            | (go_at_call 24; go_must ((with_reducible refine (frTheirsR HS25.out HFL2.out (by omega)).mono ?_); rintro e w26 ⟨A26, c26, rfl, hc26, hs⟩; have HS26 := Aside0.mk hs; clear hs))
            | (go_at_call 23; go_must ((with_reducible refine (frSame HS26.out A24 A26 fl c24 c26 _ (by rw [List.length_map, HFL2.out]) (HS26.out.pick3 [2]).rd hc24 HS26.out.rd hc26 (by omega) HM2.out).mono ?_); rintro e w27 ⟨rfl, hs⟩; have HS27 := Aside0.mk hs; clear hs)))
          go_ret
          exact ⟨rfl, HS27.out.bel⟩
def avocetlaw17_FramesBack.f (l0 : List (S44)) (l1 : List (S44)) : Option (Bool) := if (∀ x ∈ l0, okA x) ∧ (∀ x ∈ l1, okA x) then some true else none
theorem avocetlaw17_FramesBack.calls (A0 : Option Addr) (c0 : Nat) (l0 : List (S44)) (A1 : Option Addr) (c1 : Nat) (l1 : List (S44)) (r : Bool) (w : World) (hr0 : Kd.C k44 w A0 l0.length l0) (hc0 : l0.length ≤ c0) (hr1 : Kd.C k44 w A1 l1.length l1) (hc1 : l1.length ≤ c1) (hr_ : r = true) (h : avocetlaw17_FramesBack.f l0 l1 = some r) :
    Calls Try.prog 7 #[.slice A0 l0.length c0, .slice A1 l1.length c1] w fun e w' => e = .returned (.bool r) ∧ Below w.heap.size w w' := by
  subst hr_
  by_cases hn : (∀ x ∈ l0, okA x) ∧ (∀ x ∈ l1, okA x)
  · exact framesBack l0 A0 c0 l1 A1 c1 w hr0 hc0 hr1 hc1 hn.1 hn.2
  · unfold avocetlaw17_FramesBack.f at h
    rw [if_neg hn] at h
    simp at h
end Go.Proofs.Ytbbgkelcdooabaa.G
