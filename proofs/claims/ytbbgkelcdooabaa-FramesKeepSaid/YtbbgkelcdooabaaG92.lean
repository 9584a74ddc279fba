/- FramesKeep: what is below stays. -/
import Derived.Deep.DeepMust
import Derived.Test.YtbbgkelcdooabaaFraK
import Derived.Test.YtbbgkelcdooabaaFraN
import Derived.Test.YtbbgkelcdooabaaFraP
namespace Go.Proofs.Ytbbgkelcdooabaa.G
open Go.RowKit Go.Proofs.YtbbgkelcdooabaaW.PrintWords Go.Proofs.YtbbgkelcdooabaaW.PrintLast Go.Proofs.YtbbgkelcdooabaaW.PrintMore
set_option linter.unusedVariables false
set_option linter.unusedSimpArgs false
def okA (x : S44) : Prop := -9223372036854775808 ≤ x.f3 ∧ x.f3 < 9223372036854775808
instance (x : S44) : Decidable (okA x) := by unfold okA; infer_instance
theorem push1 {w0 w1 : World} {L : List As} {p : Nat} {s : FS} (hS : SB w0 w1 (FO p s :: L)) (x : Int) (hl : s.v.length ≤ 900000) :
    Calls Try.prog 11 #[.pointer (some ⟨p, 0, none⟩), .slice (some ⟨w1.heap.size, 0, none⟩) 1 1] (w1.alloc (.cells #[.int .u64 x] 35)) fun e w' => e = .returned (.tuple #[]) ∧ SB w0 w' (FO p { s with v := s.v ++ [x] } :: L) :=
  fraPush (s := s) (lit_row hS [x] (by simp)).1 (some ⟨w1.heap.size, 0, none⟩) 1 [x] (lit_row hS [x] (by simp)).2 (by simp) (by simp; omega)
set_option maxHeartbeats 8000000 in
set_option maxRecDepth 100000 in
theorem framesKeep (l : List S44) (A0 : Option Addr) (c0 : Nat) (args : List Int) (A1 : Option Addr) (c1 : Nat) (m : List S44) (A2 : Option Addr) (c2 : Nat) (w : World)
    (hC0 : Kd.C k44 w A0 l.length l) (hc0 : l.length ≤ c0) (hC1 : Kd.C (Kd.int .u64) w A1 args.length args) (hc1 : args.length ≤ c1) (hC2 : Kd.C k44 w A2 m.length m) (hc2 : m.length ≤ c2) (hok0 : ∀ x ∈ l, okA x) (hok2 : ∀ x ∈ m, okA x) :
    Calls Try.prog 5 #[.slice A0 l.length c0, .slice A1 args.length c1, .slice A2 m.length c2] w fun e w' => e = .returned (.bool true) ∧ Below w.heap.size w w' := by
  have HC0 := Aside0.mk hC0
  have HC1 := Aside0.mk hC1
  have HC2 := Aside0.mk hC2
  have HOK0 := Aside0.mk hok0
  have HOK2 := Aside0.mk hok2
  clear hC0 hC1 hC2 hok0 hok2
  obtain ⟨sm, hsm⟩ : ∃ sm, smallB l = sm := ⟨_, rfl⟩
  obtain ⟨sm2, hsm2⟩ : ∃ sm, smallB m = sm := ⟨_, rfl⟩
  have HSM := Aside0.mk hsm
  have HSM2 := Aside0.mk hsm2
  clear hsm hsm2
  cases sm with
  | false =>
    go_enter Try.func5, Try.ntmps5
    go_wp2_with (first
      | (go_at_call 9; (with_reducible refine (awake _).mono ?_); rintro e w1 ⟨rfl, hb⟩; have HB := Aside0.mk ((SB.start w).below hb); clear hb)
      | (go_at_call 19; (with_reducible refine (frSmall HB.out A0 c0 l (Kd.C_below HC0.out HB.out.bel) hc0).mono ?_); rintro e w2 ⟨rfl, hs⟩; rw [HSM.out]; have HB2 := Aside0.mk hs; clear hs))
    go_ret
    exact ⟨rfl, HB2.out.bel⟩
  | true =>
  cases sm2 with
  | false =>
    go_enter Try.func5, Try.ntmps5
    go_wp2_with (first
      | (go_at_call 9; (with_reducible refine (awake _).mono ?_); rintro e w1 ⟨rfl, hb⟩; have HB := Aside0.mk ((SB.start w).below hb); clear hb)
      | (go_at_call 19; (with_reducible refine (frSmall HB.out A0 c0 l (Kd.C_below HC0.out HB.out.bel) hc0).mono ?_); rintro e w2 ⟨rfl, hs⟩; rw [HSM.out]; have HB2 := Aside0.mk hs; clear hs)
      | (go_at_call 19; (with_reducible refine (frSmall HB2.out A2 c2 m (Kd.C_below HC2.out HB2.out.bel) hc2).mono ?_); rintro e w3 ⟨rfl, hs⟩; rw [HSM2.out]; have HB3 := Aside0.mk hs; clear hs))
    go_ret
    exact ⟨rfl, HB3.out.bel⟩
  | true =>
  by_cases hl : 20 < args.length
  · have d0 : decide (20 < args.length) = true := decide_eq_true hl
    have d0' : decide ((20 : Int) < (args.length : Int)) = true := decide_eq_true (by omega)
    go_enter Try.func5, Try.ntmps5
    go_wp2_with (first
      | (go_at_call 9; (with_reducible refine (awake _).mono ?_); rintro e w1 ⟨rfl, hb⟩; have HB := Aside0.mk ((SB.start w).below hb); clear hb)
      | (go_at_call 19; (with_reducible refine (frSmall HB.out A0 c0 l (Kd.C_below HC0.out HB.out.bel) hc0).mono ?_); rintro e w2 ⟨rfl, hs⟩; rw [HSM.out]; have HB2 := Aside0.mk hs; clear hs)
      | (go_at_call 19; (with_reducible refine (frSmall HB2.out A2 c2 m (Kd.C_below HC2.out HB2.out.bel) hc2).mono ?_); rintro e w3 ⟨rfl, hs⟩; rw [HSM2.out]; have HB3 := Aside0.mk hs; clear hs))
    go_ret
    exact ⟨rfl, HB3.out.bel⟩
  have d0 : decide (20 < args.length) = false := decide_eq_false hl
  have d0' : decide ((20 : Int) < (args.length : Int)) = false := decide_eq_false (by omega)
  have hal : args.length ≤ 20 := by omega
  have hll := (smallB_iff HSM.out).1
  have hml := (smallB_iff HSM2.out).1
  clear hl
  go_enter Try.func5, Try.ntmps5
  go_wp2_with (first
    | (go_at_call 9; (with_reducible refine (awake _).mono ?_); rintro e w1 ⟨rfl, hb⟩; have HB := Aside0.mk ((SB.start w).below hb); clear hb)
    | (go_at_call 19; (with_reducible refine (frSmall HB.out A0 c0 l (Kd.C_below HC0.out HB.out.bel) hc0).mono ?_); rintro e w2 ⟨rfl, hs⟩; rw [HSM.out]; have HB2 := Aside0.mk hs; clear hs)
    | (go_at_call 19; (with_reducible refine (frSmall HB2.out A2 c2 m (Kd.C_below HC2.out HB2.out.bel) hc2).mono ?_); rintro e w3 ⟨rfl, hs⟩; rw [HSM2.out]; have HB3 := Aside0.mk hs; clear hs)
    | (go_at_call 10; go_must ((with_reducible refine (frNewS HB3.out 64).mono ?_); rintro e w4 ⟨rfl, hs⟩; obtain ⟨p, hp⟩ : ∃ p, w3.heap.size = p := ⟨_, rfl⟩; rw [hp] at hs ⊢; have HS4 := Aside0.mk (show SB w w4 [FO p ⟨[], [], 64⟩] from hs); clear hs hp)))
  go_loopw [9] (fun v9 wr => ∃ (i : Nat) (s : FS), v9 = .int .i64 i ∧ i ≤ l.length ∧ Aside0 (Inv s (40 * i) ∧ s.room = 64) ∧ Aside0 (SB w wr [FO p s])) (fun v9 _ => l.length - (intOf v9).toNat)
  case atStart => exact ⟨0, ⟨[], [], 64⟩, rfl, Nat.zero_le _, ⟨inv_new 64, rfl⟩, HS4⟩
  case round =>
    obtain ⟨i, s, rfl, hi, HI, HR⟩ := hrel
    by_cases hlt : i < l.length
    · have e1 : decide ((i : Int) < (l.length : Int)) = true := decide_eq_true (by omega)
      have e2 : decide (i < l.length) = true := decide_eq_true hlt
      obtain ⟨x, hx⟩ : ∃ x, l[i] = x := ⟨_, rfl⟩
      have hxm : x ∈ l := by rw [← hx]; exact List.getElem_mem _
      have HX := Aside0.mk (And.intro (show -9223372036854775808 ≤ x.f3 ∧ x.f3 < 9223372036854775808 from HOK0.out x hxm) ((smallB_iff HSM.out).2 x hxm))
      have hat := at_T44 (Kd.C_below HC0.out HR.out.bel) (i : Int) (by omega) (by omega)
      rw [rd44 hlt, hx, Int.toNat_natCast] at hat
      obtain ⟨ad, A6, c6, rfl, q0, q1, q2, q3, q4, q5, q6, l6, g6⟩ := hat
      have HG := Aside0.mk g6
      clear hxm hx g6
      go_wp2_with (go_at_call 20; go_must ((with_reducible refine (frDo HR.out x A6 c6 HG.out l6 (by have := HI.out.1.vl; have := HX.out.2.1; omega) (Int.le_trans HX.out.2.2 (by decide)) HX.out.1).mono ?_); rintro e w5 ⟨rfl, hs⟩; have HR5 := Aside0.mk hs; clear hs))
      have hd := inv_do HI.out.1 x HX.out.2.2
      refine ⟨⟨i + 1, (fDo s x).1, by simp, by omega, ⟨hd.1.up (by have := HX.out.2.1; omega), by rw [hd.2.1]; exact HI.out.2⟩, HR5⟩, by simp [intOf]; omega⟩
    · have e1 : decide ((i : Int) < (l.length : Int)) = false := decide_eq_false (by omega)
      have e2 : decide (i < l.length) = false := decide_eq_false hlt
      have HI := Aside0.mk (And.intro (HI.out.1.up (B' := 4000) (by omega)) HI.out.2)
      obtain ⟨was, hwas⟩ : ∃ was, s.v = was := ⟨_, rfl⟩
      obtain ⟨fr0, hfr0⟩ : ∃ fr0, s.fr = fr0 := ⟨_, rfl⟩
      obtain ⟨k, hk⟩ : ∃ k, fr0.length = k := ⟨_, rfl⟩
      obtain ⟨wl, hwl⟩ : ∃ k, was.length = k := ⟨_, rfl⟩
      obtain rfl : s = ⟨was, fr0, 64⟩ := by have := HI.out.2; cases s; simp_all
      clear hwas hfr0
      have HI := HI.out.1
      have hk64 : k ≤ 64 := by have := HI.fl; rw [show (FS.mk was fr0 64).fr.length = k from hk, show (FS.mk was fr0 64).room = 64 from rfl] at this; omega
      have hwl4 : wl ≤ 4000 := by rw [← hwl]; exact HI.vl
      have HLoc := Aside0.mk (show ∀ f ∈ fr0, f.loc.length ≤ 4100 from HI.loc)
      have HI := Aside0.mk HI
      have HWL := Aside0.mk hwl
      have HK := Aside0.mk hk
      have hfl : (fr0.map fmS).length = k := by rw [List.length_map, hk]
      have HFL := Aside0.mk hfl
      have HM := Aside0.mk (show ∀ x ∈ (fr0.map fmS).map th, x.f2.length ≤ 1000000 from fun x hx => by
        obtain ⟨y, hy, rfl⟩ := List.mem_map.1 hx
        obtain ⟨f, hf, rfl⟩ := List.mem_map.1 hy
        have := HLoc.out f hf
        show f.loc.length ≤ 1000000
        omega)
      clear hwl hk hfl
      by_cases h64 : k < 64
      · have hen := Aside0.mk (enter_ok HI.out (show ((FS.mk was fr0 64).fr.length : Int) < 64 by rw [show (FS.mk was fr0 64).fr.length = k from HK.out]; omega) 1 2 args args.length 2 rfl)
        obtain ⟨x0, hx0⟩ : ∃ x0 : Fm, (⟨1, 2, args ++ List.replicate 2 0, ((FS.mk was fr0 64).v.length : Int)⟩ : Fm) = x0 := ⟨_, rfl⟩
        have hke := kept_enter HI.out (show ((FS.mk was fr0 64).fr.length : Int) < 64 by rw [show (FS.mk was fr0 64).fr.length = k from HK.out]; omega) 1 2 (args ++ List.replicate 2 0) (by simp; omega)
        rw [hx0] at hen hke
        have HKE := Aside0.mk (show Inv ⟨was, fr0 ++ [x0], 64⟩ 4000 ∧ Kept0 was fr0 ⟨was, fr0 ++ [x0], 64⟩ from hke)
        have hen := Aside0.mk (show fEnter ⟨was ++ args, fr0, 64⟩ 1 2 (args.length : Int) 2 = (⟨was, fr0 ++ [x0], 64⟩, 0) from hen.out)
        clear hx0 hke
        obtain ⟨n, hn⟩ : ∃ n, k + 1 = n := ⟨_, rfl⟩
        go_wp2_with (first
          | (go_at_call 16; go_must ((with_reducible refine (frVals HR.out (by show was.length ≤ 1000000; rw [HWL.out]; omega)).mono ?_); rintro e w5 ⟨v5, rfl, hs⟩; obtain ⟨A5, c5, rfl, hc5, hC5⟩ := hs.reads; rw [show (FS.mk was fr0 64).v.length = wl from HWL.out] at hs hc5 ⊢; clear hC5; have HR5 := Aside0.mk hs; clear hs))
          | (go_at_call 21; go_must ((with_reducible refine (frFrames (HR5.out.pick2 [1, 0]) (fun f hf => by have := HLoc.out f hf; omega)).mono ?_); rintro e w6 ⟨v6, rfl, hs⟩; obtain ⟨A6, c6, rfl, hc6, hC6⟩ := hs.reads; rw [show (List.map fmS (FS.mk was fr0 64).fr).length = k from HFL.out] at hs hc6 ⊢; clear hC6; have HR6 := Aside0.mk hs; clear hs))
          | (go_at_call 11; go_must ((with_reducible refine (fraPush (HR6.out.pick3 [1, 0, 2]) A1 c1 args (Kd.C_below HC1.out HR6.out.bel) hc1 (by show was.length + args.length ≤ 1000000; rw [HWL.out]; omega)).mono ?_); rintro e w7 ⟨rfl, hs⟩; have HR7 := Aside0.mk (show SB w w7 [FO p ⟨was ++ args, fr0, 64⟩, Row k58 58 (.slice A6 k c6) (fr0.map fmS), Row (Kd.int .u64) 35 (.slice A5 wl c5) was] from hs); clear hs))
          | (go_at_call 12; go_must ((with_reducible refine (fraEnter HR7.out (by show (was ++ args).length ≤ 1000000; rw [List.length_append, HWL.out]; omega) 1 2 (args.length : Int) 2 (by decide) hen.out).mono ?_); rintro e w8 ⟨rfl, hs⟩; have HR8 := Aside0.mk hs; clear hs))
          | (go_at_call 13; go_must ((with_reducible refine (fraDepth HR8.out).mono ?_); rintro e w9 ⟨rfl, hs⟩; rw [show (((FS.mk was (fr0 ++ [x0]) 64).fr.length : Nat) : Int) = (n : Int) by show ((fr0 ++ [x0]).length : Int) = _; rw [List.length_append, HK.out, ← hn]; rfl]; have HR9 := Aside0.mk hs; clear hs)))
        go_loopw [13] (fun v13 wr => ∃ (j : Nat) (s : FS), v13 = .int .i64 j ∧ j ≤ m.length ∧ Aside0 (Inv s (4000 + 40 * j) ∧ s.room = 64 ∧ Kept0 was fr0 s) ∧ Aside0 (SB w wr [FO p s, Row k58 58 (.slice A6 k c6) (fr0.map fmS), Row (Kd.int .u64) 35 (.slice A5 wl c5) was])) (fun v13 _ => m.length - (intOf v13).toNat)
        case atStart => exact ⟨0, _, rfl, Nat.zero_le _, ⟨HKE.out.1, rfl, HKE.out.2⟩, HR9⟩
        case round =>
          obtain ⟨j, s, rfl, hj, HI2, HR2⟩ := hrel
          by_cases hlt2 : j < m.length
          · have e3 : decide ((j : Int) < (m.length : Int)) = true := decide_eq_true (by omega)
            have e4 : decide (j < m.length) = true := decide_eq_true hlt2
            obtain ⟨x, hx⟩ : ∃ x, m[j] = x := ⟨_, rfl⟩
            have hxm : x ∈ m := by rw [← hx]; exact List.getElem_mem _
            have HX := Aside0.mk (And.intro (show -9223372036854775808 ≤ x.f3 ∧ x.f3 < 9223372036854775808 from HOK2.out x hxm) ((smallB_iff HSM2.out).2 x hxm))
            have HAT := Aside0.mk (fun (W : World) (hb : Below w.heap.size w W) => (by have := at_T44 (Kd.C_below HC2.out hb) (j : Int) (by omega) (by omega); rw [rd44 hlt2, hx, Int.toNat_natCast] at this; exact this))
            obtain ⟨ad, A7, c7, hAd, q0, q1, q2, q3, q4, q5, q6, l7, g7⟩ := HAT.out _ HR2.out.bel
            have HAD := Aside0.mk hAd
            subst hAd
            have HG := Aside0.mk g7
            obtain ⟨d, hd⟩ : ∃ d, s.fr.length = d := ⟨_, rfl⟩
            have HD := Aside0.mk hd
            clear hxm hx g7 hd
            have hB : s.v.length + x.f6.length ≤ 1000000 := by have := HI2.out.1.vl; have := HX.out.2.1; omega
            by_cases h6 : x.f0 = 6
            · obtain ⟨y0, y1, y2, y3, y4, y5, y6⟩ := x
              obtain rfl : y0 = 6 := h6
              dsimp only at q0 q1 q2 q3 q4 q5 q6 l7
              by_cases hdn : n < d
              · have e5 : decide ((n : Int) < (d : Int)) = true := decide_eq_true (by omega)
                have e6 : decide (n < d) = true := decide_eq_true hdn
                go_wp2_with (first
                  | (go_at_call 13; go_must ((with_reducible refine (fraDepth HR2.out).mono ?_); rintro e w10 ⟨rfl, hs⟩; rw [HD.out]; obtain ⟨ad2, A8, c8, hAd2, r0, r1, r2, r3, r4, r5, r6, l8, g8⟩ := HAT.out _ hs.bel; obtain rfl := Option.some.inj hAd2; dsimp only at r0 r1 r2 r3 r4 r5 r6 l8; have HG8 := Aside0.mk g8; have HR10 := Aside0.mk hs; clear hs g8))
                  | (go_at_call 20; go_must ((with_reducible refine (frDo HR10.out ⟨6, y1, y2, y3, y4, y5, y6⟩ A8 c8 HG8.out l8 hB (Int.le_trans HX.out.2.2 (by decide)) HX.out.1).mono ?_); rintro e w11 ⟨rfl, hs⟩; have HR11 := Aside0.mk hs; clear hs)))
                have hd2 := inv_do HI2.out.1 ⟨6, y1, y2, y3, y4, y5, y6⟩ HX.out.2.2
                refine ⟨⟨j + 1, (fDo s ⟨6, y1, y2, y3, y4, y5, y6⟩).1, by simp, by omega, ⟨hd2.1.up (Nat.le_trans (Nat.add_le_add_left HX.out.2.1 _) (by omega)), by rw [hd2.2.1]; exact HI2.out.2.1, hd2.2.2 _ _ HI2.out.2.2 (.inr (by rw [HD.out, HK.out]; omega))⟩, HR11⟩, by simp [intOf]; omega⟩
              · have e5 : decide ((n : Int) < (d : Int)) = false := decide_eq_false (by omega)
                have e6 : decide (n < d) = false := decide_eq_false hdn
                go_wp2_with (go_at_call 13; go_must ((with_reducible refine (fraDepth HR2.out).mono ?_); rintro e w10 ⟨rfl, hs⟩; rw [HD.out]; have HR10 := Aside0.mk hs; clear hs))
                refine ⟨⟨j + 1, s, by simp, by omega, ⟨HI2.out.1.up (by omega), HI2.out.2⟩, HR10⟩, by simp [intOf]; omega⟩
            · have b6 : (x.f0 == 6) = false := beq_eq_false_iff_ne.2 h6
              go_wp2_with (go_at_call 20; go_must ((with_reducible refine (frDo HR2.out x A7 c7 HG.out l7 hB (Int.le_trans HX.out.2.2 (by decide)) HX.out.1).mono ?_); rintro e w11 ⟨rfl, hs⟩; have HR11 := Aside0.mk hs; clear hs))
              have hd2 := inv_do HI2.out.1 x HX.out.2.2
              refine ⟨⟨j + 1, (fDo s x).1, by simp, by omega, ⟨hd2.1.up (Nat.le_trans (Nat.add_le_add_left HX.out.2.1 _) (by omega)), by rw [hd2.2.1]; exact HI2.out.2.1, hd2.2.2 _ _ HI2.out.2.2 (.inl h6)⟩, HR11⟩, by simp [intOf]; omega⟩
          · have e3 : decide ((j : Int) < (m.length : Int)) = false := decide_eq_false (by omega)
            have e4 : decide (j < m.length) = false := decide_eq_false hlt2
            have HI2 := Aside0.mk (And.intro (HI2.out.1.up (B' := 8000) (by omega)) HI2.out.2)
            have hge := HI2.out.2.2.ne
            rw [HK.out] at hge
            go_wp2
            go_loopg [] (s.fr.length - k) (fun kq wr => ∃ (s3 : FS), Aside0 (Inv s3 8000 ∧ s3.room = 64 ∧ Kept0 was fr0 s3 ∧ s3.fr.length = k + kq) ∧ Aside0 (SB w wr [FO p s3, Row k58 58 (.slice A6 k c6) (fr0.map fmS), Row (Kd.int .u64) 35 (.slice A5 wl c5) was]))
            case atStart => exact ⟨s, ⟨HI2.out.1, HI2.out.2.1, HI2.out.2.2, by omega⟩, HR2⟩
            case round =>
              obtain ⟨s3, HI3, HR3⟩ := hrel
              cases gk with
              | zero => exact absurd HI3.out.2.2.1.ne (by rw [HK.out, HI3.out.2.2.2]; omega)
              | succ k1 =>
                by_cases hk1 : 0 < k1
                · have e5 : decide ((n : Int) < ((k + (k1 + 1) : Nat) : Int)) = true := decide_eq_true (by omega)
                  obtain ⟨d, hd⟩ : ∃ d, k + (k1 + 1) = d := ⟨_, rfl⟩
                  rw [hd] at e5
                  have e6 : decide (n < d) = true := decide_eq_true (by omega)
                  have HD := Aside0.mk (HI3.out.2.2.2.trans hd)
                  have hne : s3.fr ≠ [] := by intro h0; have := HD.out; rw [h0] at this; simp at this; omega
                  have hlv := Aside0.mk (leave0 HI3.out.1 hne)
                  have hlen := leave0_len HI3.out.1 hne
                  have hd3 := inv_do HI3.out.1 ⟨6, 0, 0, 0, 0, 0, []⟩ (by decide)
                  go_wp2_with (first
                    | (go_at_call 13; go_must ((with_reducible refine (fraDepth HR3.out).mono ?_); rintro e w12 ⟨rfl, hs⟩; rw [HD.out]; have HR12 := Aside0.mk hs; clear hs))
                    | (go_at_call 14; go_must ((with_reducible refine (fraLeave HR12.out (by have := HI3.out.1.vl; omega) 0 hlv.out).mono ?_); rintro e w13 ⟨rfl, hs⟩; have HR13 := Aside0.mk hs; clear hs)))
                  go_roundg k1
                  case measure => omega
                  case rel => exact ⟨(fDo s3 ⟨6, 0, 0, 0, 0, 0, []⟩).1, ⟨hd3.1, by rw [hd3.2.1]; exact HI3.out.2.1, hd3.2.2 _ _ HI3.out.2.2.1 (.inr (by rw [HD.out, HK.out]; omega)), by rw [hlen, HD.out]; omega⟩, HR13⟩
                · obtain rfl : k1 = 0 := by omega
                  obtain ⟨sv, sf, sr⟩ := s3
                  obtain rfl : sr = 64 := HI3.out.2.1
                  have e5 : decide ((n : Int) < (n : Int)) = false := decide_eq_false (by omega)
                  have hsf : sf.length = n := HI3.out.2.2.2.trans (by omega)
                  have HD := Aside0.mk hsf
                  have hlv := Aside0.mk (leave1 HI3.out.1 HI3.out.2.2.1 (show sf.length = fr0.length + 1 by rw [HK.out, hsf]; omega) 9)
                  have hlv := Aside0.mk (show fLeave ⟨sv ++ [9], sf, 64⟩ 1 = (⟨was ++ [9], fr0, 64⟩, true) from hlv.out)
                  have hsv : sv.length ≤ 8000 := HI3.out.1.vl
                  have hw9 : (was ++ [9]).length = wl + 1 := by rw [List.length_append, HWL.out]; rfl
                  have HW9 := Aside0.mk hw9
                  have HT9 := Aside0.mk (show (was ++ [9]).take wl = was by rw [← HWL.out, List.take_left])
                  have HG9 := Aside0.mk (show ∀ h : wl < (was ++ [(9 : Int)]).length, (was ++ [9])[wl] = 9 by intro h; have hh := HWL.out; subst hh; simp)
                  obtain ⟨wl1, hwl1⟩ : ∃ wl1, wl + 1 = wl1 := ⟨_, rfl⟩
                  rw [hwl1] at HW9
                  have f1 : wl ≤ wl1 := by omega
                  have f2 : wl < wl1 := by omega
                  have e7 : decide (wl ≤ wl1) = true := decide_eq_true f1
                  have e8 : decide (wl < wl1) = true := decide_eq_true f2
                  have e9 : (wl1 : Int) = (wl : Int) + 1 := by omega
                  clear hsf hw9
                  go_wp2_with (first
                    | (go_at_call 13; ((with_reducible refine (fraDepth HR3.out).mono ?_); rintro e w12 ⟨rfl, hs⟩; rw [show (FS.mk sv sf 64).fr.length = n from HD.out]; have HR12 := Aside0.mk hs; clear hs))
                    | (go_at_call 11; ((with_reducible refine (push1 HR12.out 9 (by show sv.length ≤ 900000; omega)).mono ?_); rintro e w13 ⟨rfl, hs⟩; have HR13 := Aside0.mk (show SB w w13 [FO p ⟨sv ++ [9], sf, 64⟩, Row k58 58 (.slice A6 k c6) (fr0.map fmS), Row (Kd.int .u64) 35 (.slice A5 wl c5) was] from hs); clear hs))
                    | (go_at_call 14; go_must ((with_reducible refine (fraLeave HR13.out (by show (sv ++ [9]).length ≤ 1000000; simp; omega) 1 hlv.out).mono ?_); rintro e w14 ⟨rfl, hs⟩; have HR14 := Aside0.mk hs; clear hs))
                    | (go_at_call 16; go_must ((with_reducible refine (frVals HR14.out (by show (was ++ [9]).length ≤ 1000000; rw [HW9.out]; omega)).mono ?_); rintro e w15 ⟨v15, rfl, hs⟩; obtain ⟨A15, c15, rfl, hc15, hC15⟩ := hs.reads; rw [show (FS.mk (was ++ [9]) fr0 64).v.length = wl1 from HW9.out] at hs hc15 ⊢; clear hC15; have HR15 := Aside0.mk (show SB w w15 [Row (Kd.int .u64) 35 (.slice A15 wl1 c15) (was ++ [9]), FO p ⟨was ++ [9], fr0, 64⟩, Row k58 58 (.slice A6 k c6) (fr0.map fmS), Row (Kd.int .u64) 35 (.slice A5 wl c5) was] from hs); clear hs))
                    | (go_at_call 11; go_must ((with_reducible refine (frPushNil _ _).mono ?_); rintro e w16 ⟨rfl, hd⟩; have HR16 := Aside0.mk ((HR15.out.alloc _).below (drawn_below hd)); clear hd))
                    | (go_at_call 22; go_must ((with_reducible refine (frPopNil _).mono ?_); rintro e w17 ⟨rfl, hd⟩; have HR17 := Aside0.mk (HR16.out.below (drawn_below hd)); clear hd))
                    | (go_at_call 15; go_must (obtain ⟨Aa, ca, ea, hca, hCa⟩ := HR17.out.reads; obtain ⟨Ab, cb, eb, hcb, hCb⟩ := (HR17.out.pick4 [3]).reads; injection ea with ea1 ea2 ea3; injection eb with eb1 eb2 eb3; clear ea2 ea3 eb2 eb3; subst ea1 eb1; have hCa2 := Kd.C_take hCa (m := wl) (by rw [HW9.out]; exact f1); rw [HT9.out, HWL.out] at hCa2; rw [HWL.out] at hCb; (with_reducible refine (frWords HR17.out A15 A5 wl c15 c5 was HWL.out hCa2 (by omega) hCb (by omega) (by omega)).mono ?_); rintro e w18 ⟨rfl, hs⟩; clear hCa hCa2 hCb hca hcb; obtain ⟨Aa, ca, ea, hca, hCa⟩ := hs.reads; injection ea with eaa eab eac; clear eab eac; subst eaa; obtain ⟨ad, eA, hq⟩ := row_cell hCa (i := wl) (by rw [HW9.out]; exact f2); subst eA; rw [HG9.out] at hq; clear hCa hca; have HR18 := Aside0.mk hs; clear hs))
                    | (go_at_call 21; go_must ((with_reducible refine (frFrames (HR18.out.pick4 [1, 2]) (fun f hf => by have := HLoc.out f hf; omega)).mono ?_); rintro e w19 ⟨v19, rfl, hs⟩; have HR19 := Aside0.mk hs; clear hs))
                    | (go_at_call 24; ((with_reducible refine (frTheirs HR19.out (by rw [HFL.out]; omega)).mono ?_); rintro e w20 ⟨A20, c20, rfl, hC20, hc20, hs, _⟩; rw [HFL.out] at hC20 hc20 ⊢; have HC20 := Aside0.mk hC20; have HR20 := Aside0.mk hs; clear hs hC20))
                    | (go_at_call 24; go_must ((with_reducible refine (frTheirs (HR20.out.pick3 [2]) (by rw [HFL.out]; omega)).mono ?_); rintro e w21 ⟨A21, c21, rfl, hC21, hc21, hs, hb21⟩; rw [HFL.out] at hC21 hc21 ⊢; have HC21 := Aside0.mk hC21; have HC20b := Aside0.mk (Kd.C_below HC20.out hb21); have HR21 := Aside0.mk hs; clear hs hC21 hb21))
                    | (go_at_call 23; go_must ((with_reducible refine (frSame HR21.out A20 A21 k c20 c21 _ (by rw [List.length_map, HFL.out]) HC20b.out hc20 HC21.out hc21 (by omega) HM.out).mono ?_); rintro e w22 ⟨rfl, hs⟩; have HR22 := Aside0.mk hs; clear hs))
                    | (go_at_call 12; go_must ((with_reducible refine (frEnterNil _ _ _ _ _).mono ?_); rintro e w23 ⟨rfl, hd⟩; have HR23 := Aside0.mk (HR22.out.below (drawn_below hd)); clear hd))
                    | (go_at_call 13; go_must ((with_reducible refine (frDepthNil _).mono ?_); rintro e w24 ⟨rfl, hd⟩; have HR24 := Aside0.mk (HR23.out.below (drawn_below hd)); clear hd)))
                  go_ret
                  exact ⟨rfl, HR24.out.bel⟩
      · obtain rfl : k = 64 := by omega
        have hen := Aside0.mk (enter_deep (s := ⟨was ++ args, fr0, 64⟩) (by show (fr0.length : Int) = 64; rw [HK.out]; rfl) 1 2 (args.length : Int) 2)
        go_wp2_with (first
          | (go_at_call 16; go_must ((with_reducible refine (frVals HR.out (by show was.length ≤ 1000000; rw [HWL.out]; omega)).mono ?_); rintro e w5 ⟨v5, rfl, hs⟩; obtain ⟨A5, c5, rfl, hc5, hC5⟩ := hs.reads; rw [show (FS.mk was fr0 64).v.length = wl from HWL.out] at hs hc5 ⊢; clear hC5; have HR5 := Aside0.mk hs; clear hs))
          | (go_at_call 21; go_must ((with_reducible refine (frFrames (HR5.out.pick2 [1, 0]) (fun f hf => by have := HLoc.out f hf; omega)).mono ?_); rintro e w6 ⟨v6, rfl, hs⟩; obtain ⟨A6, c6, rfl, hc6, hC6⟩ := hs.reads; rw [show (List.map fmS (FS.mk was fr0 64).fr).length = 64 from HFL.out] at hs hc6 ⊢; clear hC6; have HR6 := Aside0.mk hs; clear hs))
          | (go_at_call 11; go_must ((with_reducible refine (fraPush (HR6.out.pick3 [1, 0, 2]) A1 c1 args (Kd.C_below HC1.out HR6.out.bel) hc1 (by show was.length + args.length ≤ 1000000; rw [HWL.out]; omega)).mono ?_); rintro e w7 ⟨rfl, hs⟩; have HR7 := Aside0.mk (show SB w w7 [FO p ⟨was ++ args, fr0, 64⟩, Row k58 58 (.slice A6 64 c6) (fr0.map fmS), Row (Kd.int .u64) 35 (.slice A5 wl c5) was] from hs); clear hs))
          | (go_at_call 12; go_must ((with_reducible refine (fraEnter HR7.out (by show (was ++ args).length ≤ 1000000; rw [List.length_append, HWL.out]; omega) 1 2 (args.length : Int) 2 (by decide) hen.out).mono ?_); rintro e w8 ⟨rfl, hs⟩; have HR8 := Aside0.mk hs; clear hs)))
        go_ret
        exact ⟨rfl, HR8.out.bel⟩
def avocetlaw17_FramesKeep.f (l0 : List (S44)) (l1 : List Int) (l2 : List (S44)) : Option (Bool) := if (∀ x ∈ l0, okA x) ∧ (∀ x ∈ l2, okA x) then some true else none
theorem avocetlaw17_FramesKeep.calls (A0 : Option Addr) (c0 : Nat) (l0 : List (S44)) (A1 : Option Addr) (c1 : Nat) (l1 : List Int) (A2 : Option Addr) (c2 : Nat) (l2 : List (S44)) (r : Bool) (w : World) (hr0 : Kd.C k44 w A0 l0.length l0) (hc0 : l0.length ≤ c0) (hr1 : Kd.C (Kd.int .u64) w A1 l1.length l1) (hc1 : l1.length ≤ c1) (hr2 : Kd.C k44 w A2 l2.length l2) (hc2 : l2.length ≤ c2) (hr_ : r = true) (h : avocetlaw17_FramesKeep.f l0 l1 l2 = some r) :
    Calls Try.prog 5 #[.slice A0 l0.length c0, .slice A1 l1.length c1, .slice A2 l2.length c2] w fun e w' => e = .returned (.bool r) ∧ Below w.heap.size w w' := by
  subst hr_
  by_cases hn : (∀ x ∈ l0, okA x) ∧ (∀ x ∈ l2, okA x)
  · exact framesKeep l0 A0 c0 l1 A1 c1 l2 A2 c2 w hr0 hc0 hr1 hc1 hr2 hc2 hn.1 hn.2
  · unfold avocetlaw17_FramesKeep.f at h
    rw [if_neg hn] at h
    simp at h
end Go.Proofs.Ytbbgkelcdooabaa.G
