/- The law TableGlobs walked. -/
import Derived.Test.YtjdnkhgpnddncaaG92
namespace Go.Proofs.Ytjdnkhgpnddncaa.G
open Go.RowKit Go.Proofs.YtjdnkhgpnddncaaW.PrintWords Go.Proofs.YtjdnkhgpnddncaaW.PrintLast Go.Proofs.YtjdnkhgpnddncaaW.PrintMore
attribute [local go_sem] max2_int min2_int max_two min_two max_three min_three max_four min_four   -- for this text's walks alone
set_option linter.unusedVariables false
set_option linter.unusedSimpArgs false
theorem gAdd_cases (gl : List S95) (t : Int) (m : Bool) (v : Int) : gAdd gl t m v = (0, 4, gl) ∨ gAdd gl t m v = (0, 5, gl) ∨ (gAdd gl t m v = ((gl.length : Int), 0, gl ++ [⟨t, m, v⟩]) ∧ fit t v = true ∧ gl.length < 128) := by
  unfold gAdd
  by_cases h : 128 ≤ gl.length
  · rw [if_pos h]; exact .inl rfl
  · rw [if_neg h]
    cases hf : fit t v with
    | true => rw [if_pos rfl]; exact .inr (.inr ⟨rfl, rfl, by omega⟩)
    | false => rw [if_neg (by simp)]; exact .inr (.inl rfl)
theorem set_cases (gl : List S95) (i v : Int) : (i < 0 ∧ gType gl i = (0, false, false) ∧ gSet gl i v = (6, gl)) ∨ (0 ≤ i ∧ (gl.length : Int) ≤ i ∧ gType gl i = (0, false, false) ∧ gSet gl i v = (6, gl))
    ∨ ∃ (t : Nat) (y : S95), t < gl.length ∧ i = (t : Int) ∧ ((gType gl t = (y.f0, false, true) ∧ gSet gl t v = (5, gl)) ∨ (gType gl t = (y.f0, true, true) ∧ gSet gl t v = (5, gl) ∧ fit y.f0 v = false) ∨ (gType gl t = (y.f0, true, true) ∧ gSet gl t v = (0, gl.set t ⟨y.f0, true, v⟩) ∧ fit y.f0 v = true)) := by
  by_cases h : 0 ≤ i ∧ i < gl.length
  · obtain ⟨t, rfl⟩ := Int.eq_ofNat_of_zero_le h.1
    refine .inr (.inr ⟨t, rd_T95 gl t, by omega, rfl, ?_⟩)
    have h1 : gType gl t = ((rd_T95 gl t).f0, (rd_T95 gl t).f1, true) := if_pos h
    have h2 : gSet gl t v = if (rd_T95 gl t).f1 = true ∧ fit (rd_T95 gl t).f0 v = true then (0, gl.set t ⟨(rd_T95 gl t).f0, (rd_T95 gl t).f1, v⟩) else (5, gl) := if_pos h
    rw [h1, h2]
    cases hm : (rd_T95 gl t).f1 with
    | false => exact .inl ⟨rfl, if_neg (by simp)⟩
    | true =>
      cases hf : fit (rd_T95 gl t).f0 v with
      | false => exact .inr (.inl ⟨rfl, if_neg (by simp), rfl⟩)
      | true => exact .inr (.inr ⟨rfl, if_pos (by simp), rfl⟩)
  · have h1 : gType gl i = (0, false, false) := if_neg h
    have h2 : gSet gl i v = (6, gl) := if_neg h
    by_cases h0 : i < 0
    · exact .inl ⟨h0, h1, h2⟩
    · exact .inr (.inl ⟨by omega, by omega, h1, h2⟩)
/-- Numbers of their kinds. -/
def okA (x : S40) : Prop := okI x.f1 ∧ (0 ≤ x.f2 ∧ x.f2 < 18446744073709551616) ∧ (0 ≤ x.f3 ∧ x.f3 < 256)
instance (x : S40) : Decidable (okA x) := by unfold okA; infer_instance
theorem map_set (gl : List S95) (t : Nat) (y : S95) : (gl.set t y).map S95.f2 = (gl.map S95.f2).set t y.f2 := List.map_set
set_option maxRecDepth 100000 in
set_option maxHeartbeats 8000000 in
theorem tableGlobs (l : List S40) (A : Option Addr) (c : Nat) (ai : Int) (w : World) (hC : Kd.C k40 w A l.length l) (hc : l.length ≤ c) (hok : ∀ x ∈ l, okA x) :
    Calls Try.prog 5 #[.slice A l.length c, .int .i64 ai] w fun e w' => e = .returned (.bool true) ∧ Below w.heap.size w w' := by
  obtain ⟨ks, hks⟩ := small_ex l
  have HC := Aside0.mk hC
  have HOK := Aside0.mk hok
  obtain ⟨sm, hsm⟩ : ∃ sm, smallB l = sm := ⟨_, rfl⟩
  rw [hsm] at hks
  have HKS := Aside0.mk hks
  clear hC hks hok
  cases sm with
  | false =>
    clear hsm
    go_enter Try.func5, Try.ntmps5
    go_wp2_with (first
      | (go_at_call 8; (with_reducible refine (awake _).mono ?_); rintro e w1 ⟨rfl, hb⟩; have HB := Aside0.mk hb; clear hb)
      | (go_at_call 13; (with_reducible refine (avocetlaw14_small.calls ks A c l _ _ (Kd.C_below HC.out HB.out) hc HKS.out).mono ?_); rintro e w2 ⟨rfl, hd⟩; have HB2 := Aside0.mk (HB.out.trans (Below.mono (drawn_below hd) HB.out.size)); clear hd))
    go_ret
    exact ⟨rfl, HB2.out⟩
  | true =>
    obtain ⟨hl200, hl300⟩ := smallB_iff hsm
    clear hsm hl300
    go_enter Try.func5, Try.ntmps5
    go_wp2_with (first
      | (go_at_call 8; (with_reducible refine (awake _).mono ?_); rintro e w1 ⟨rfl, hb⟩; have HB := Aside0.mk hb; clear hb)
      | (go_at_call 13; (with_reducible refine (avocetlaw14_small.calls ks A c l _ _ (Kd.C_below HC.out HB.out) hc HKS.out).mono ?_); rintro e w2 ⟨rfl, hd⟩; have HB2 := Aside0.mk (HB.out.trans (Below.mono (drawn_below hd) HB.out.size)); clear hd))
    obtain ⟨p, hp⟩ : ∃ p, w2.heap.size = p := ⟨_, rfl⟩
    have HS1 := Aside0.mk (((SB.start w).below HB2.out).newGlobs.row (Below.refl _ _) (Kd.R_nil (Kd.int .u64) 35 _ _ (fun _ => True)))
    rw [hp] at HS1
    go_loopw [7, 8, 9, 10, 11, 12, 13, 14] (fun v7 v8 v9 v10 v11 v12 v13 v14 wr => ∃ (i : Nat) (gl : List S95), v8 = .int .i64 i ∧ i ≤ l.length ∧ gl.length ≤ 128 ∧ Aside0 (SB w wr [Row (Kd.int .u64) 35 v7 (gl.map S95.f2), GO p gl])) (fun _ v8 _ _ _ _ _ _ _ => l.length - (intOf v8).toNat)
    case atStart => exact ⟨0, [], rfl, Nat.zero_le _, by decide, HS1⟩
    case round =>
      obtain ⟨i, gl, rfl, hi, hgl, HW⟩ := hrel
      rw [hp]
      obtain ⟨ws, hws⟩ : ∃ ws, gl.map S95.f2 = ws := ⟨_, rfl⟩
      rw [hws] at HW
      have hwl : ws.length = gl.length := by rw [← hws, List.length_map]
      have HWL := Aside0.mk hwl
      have HWS := Aside0.mk hws
      clear hwl hws
      obtain ⟨A7, c7, rfl, hc7, hC7⟩ := HW.out.reads
      clear hC7
      rw [HWL.out] at HW ⊢
      by_cases hlt2 : i < l.length
      · have e3 : decide ((i : Int) < (l.length : Int)) = true := decide_eq_true (by omega)
        have e4 : decide (i < l.length) = true := decide_eq_true hlt2
        obtain ⟨x, hx⟩ : ∃ x, l[i] = x := ⟨_, rfl⟩
        have HOX := Aside0.mk (HOK.out x (by rw [← hx]; exact List.getElem_mem _))
        have HAT := Aside0.mk (fun (W : World) (hb : Below w.heap.size w W) => (by have := at_T40 (Kd.C_below HC.out hb) (i : Int) (by omega) (by omega); rw [rd40 hlt2, hx, Int.toNat_natCast] at this; exact this))
        obtain ⟨ad, A5, c5, hAd, q0, q1, q2, q3, q4, q5, l5, g5⟩ := HAT.out _ HW.out.bel
        have HAD := Aside0.mk hAd
        subst hAd
        clear hx g5 l5
        by_cases cw : x.f0 ≤ 3
        · have e5 : decide (x.f0 ≤ 3) = true := decide_eq_true cw
          rcases gAdd_cases gl x.f3 x.f4 x.f2 with hadd | hadd | ⟨hadd, hfit, hlen⟩
          · have HADD := Aside0.mk hadd
            clear hadd
            go_wp2
            refine rg_startL (n := 22) (S := fun w' => SB w w' [Row (Kd.int .u64) 35 (.slice A7 gl.length c7) ws]) (bm 22 0) (by kernel_rfl) rfl (by kernel_rfl) ((HW.out.drew.pick [0])) (fun wd hwd hHeld => ?_)
            refine rg_take (i := 0) (N := some 43) (v := ?_) (a' := ?_) (bm 22 1) rfl rfl (by kernel_rfl) (fun _ _ _ h => h) hHeld (Or.inl ⟨by rfl, ?_⟩) ?_ ?_
            rotate_left
            · intro w' hw'
              obtain ⟨ad2, A6, c6, hAd2, r0, r1, r2, r3, r4, r5, _, _⟩ := HAT.out w' hw'.bel
              obtain rfl := Option.some.inj hAd2
              go_simp
              with_reducible rfl
            rotate_left
            · simp only [Act.put, List.setIfInBounds_toArray, List.set_cons_zero, List.set_cons_succ]
              rfl
            refine rg_take (i := 1) (N := some 44) (v := ?_) (a' := ?_) (bm 22 3) rfl rfl (by kernel_rfl) (fun _ _ _ h => h) hHeld (Or.inl ⟨by rfl, ?_⟩) ?_ ?_
            rotate_left
            · intro w' hw'
              obtain ⟨ad2, A6, c6, hAd2, r0, r1, r2, r3, r4, r5, _, _⟩ := HAT.out w' hw'.bel
              obtain rfl := Option.some.inj hAd2
              go_simp
              with_reducible rfl
            rotate_left
            · simp only [Act.put, List.setIfInBounds_toArray, List.set_cons_zero, List.set_cons_succ]
              rfl
            refine rg_take (i := 2) (N := some 45) (v := ?_) (a' := ?_) (bm 22 7) rfl rfl (by kernel_rfl) (fun _ _ _ h => h) hHeld (Or.inl ⟨by rfl, ?_⟩) ?_ ?_
            rotate_left
            · intro w' hw'
              obtain ⟨ad2, A6, c6, hAd2, r0, r1, r2, r3, r4, r5, _, _⟩ := HAT.out w' hw'.bel
              obtain rfl := Option.some.inj hAd2
              go_simp
              with_reducible rfl
            rotate_left
            · simp only [Act.put, List.setIfInBounds_toArray, List.set_cons_zero, List.set_cons_succ]
              rfl
            refine rg_take (i := 3) (N := some 46) (v := ?_) (a' := ?_) (bm 22 15) rfl rfl (by kernel_rfl) (fun _ _ _ h => h) hHeld (Or.inl ⟨by rfl, ?_⟩) ?_ ?_
            rotate_left
            · intro w' hw'
              obtain ⟨ad2, A6, c6, hAd2, r0, r1, r2, r3, r4, r5, _, _⟩ := HAT.out w' hw'.bel
              obtain rfl := Option.some.inj hAd2
              go_simp
              with_reducible rfl
            rotate_left
            · simp only [Act.put, List.setIfInBounds_toArray, List.set_cons_zero, List.set_cons_succ]
              rfl
            refine rg_take (i := 4) (N := some 47) (v := ?_) (a' := ?_) (bm 22 31) rfl rfl (by kernel_rfl) (fun _ _ _ h => h) hHeld (Or.inl ⟨by rfl, ?_⟩) ?_ ?_
            rotate_left
            · intro w' hw'
              obtain ⟨ad2, A6, c6, hAd2, r0, r1, r2, r3, r4, r5, _, _⟩ := HAT.out w' hw'.bel
              obtain rfl := Option.some.inj hAd2
              go_simp
              with_reducible rfl
            rotate_left
            · simp only [Act.put, List.setIfInBounds_toArray, List.set_cons_zero, List.set_cons_succ]
              rfl
            refine rg_take (i := 5) (N := some 48) (v := ?_) (a' := ?_) (bm 22 63) rfl rfl (by kernel_rfl) (fun _ _ _ h => h) hHeld (Or.inl ⟨by rfl, ?_⟩) ?_ ?_
            rotate_left
            · intro w' hw'
              obtain ⟨ad2, A6, c6, hAd2, r0, r1, r2, r3, r4, r5, _, _⟩ := HAT.out w' hw'.bel
              obtain rfl := Option.some.inj hAd2
              go_simp
              with_reducible rfl
            rotate_left
            · simp only [Act.put, List.setIfInBounds_toArray, List.set_cons_zero, List.set_cons_succ]
              rfl
            refine rg_take (i := 6) (N := some 49) (v := ?_) (a' := ?_) (bm 22 127) rfl rfl (by kernel_rfl) (fun _ _ _ h => h) hHeld (Or.inl ⟨by rfl, ?_⟩) ?_ ?_
            rotate_left
            · intro w' hw'
              obtain ⟨ad2, A6, c6, hAd2, r0, r1, r2, r3, r4, r5, _, _⟩ := HAT.out w' hw'.bel
              obtain rfl := Option.some.inj hAd2
              go_simp
              with_reducible rfl
            rotate_left
            · simp only [Act.put, List.setIfInBounds_toArray, List.set_cons_zero, List.set_cons_succ]
              rfl
            refine rg_take (i := 7) (N := some 50) (v := ?_) (a' := ?_) (bm 22 255) rfl rfl (by kernel_rfl) (fun _ _ _ h => h) hHeld (Or.inl ⟨by rfl, ?_⟩) ?_ ?_
            rotate_left
            · intro w' hw'
              obtain ⟨ad2, A6, c6, hAd2, r0, r1, r2, r3, r4, r5, _, _⟩ := HAT.out w' hw'.bel
              obtain rfl := Option.some.inj hAd2
              go_simp
              with_reducible rfl
            rotate_left
            · simp only [Act.put, List.setIfInBounds_toArray, List.set_cons_zero, List.set_cons_succ]
              rfl
            refine rg_take (i := 8) (N := some 51) (v := ?_) (a' := ?_) (bm 22 511) rfl rfl (by kernel_rfl) (fun _ _ _ h => h) hHeld (Or.inl ⟨by rfl, ?_⟩) ?_ ?_
            rotate_left
            · intro w' hw'
              obtain ⟨ad2, A6, c6, hAd2, r0, r1, r2, r3, r4, r5, _, _⟩ := HAT.out w' hw'.bel
              obtain rfl := Option.some.inj hAd2
              go_simp
              with_reducible rfl
            rotate_left
            · simp only [Act.put, List.setIfInBounds_toArray, List.set_cons_zero, List.set_cons_succ]
              rfl
            refine rg_take (i := 9) (N := some 52) (v := ?_) (a' := ?_) (bm 22 1023) rfl rfl (by kernel_rfl) (fun _ _ _ h => h) hHeld (Or.inl ⟨by rfl, ?_⟩) ?_ ?_
            rotate_left
            · intro w' hw'
              obtain ⟨ad2, A6, c6, hAd2, r0, r1, r2, r3, r4, r5, _, _⟩ := HAT.out w' hw'.bel
              obtain rfl := Option.some.inj hAd2
              go_simp
              with_reducible rfl
            rotate_left
            · simp only [Act.put, List.setIfInBounds_toArray, List.set_cons_zero, List.set_cons_succ]
              rfl
            refine rg_take (i := 10) (N := some 53) (v := ?_) (a' := ?_) (bm 22 2047) rfl rfl (by kernel_rfl) (fun _ _ _ h => h) hHeld (Or.inl ⟨by rfl, ?_⟩) ?_ ?_
            rotate_left
            · intro w' hw'
              obtain ⟨ad2, A6, c6, hAd2, r0, r1, r2, r3, r4, r5, _, _⟩ := HAT.out w' hw'.bel
              obtain rfl := Option.some.inj hAd2
              go_simp
              with_reducible rfl
            rotate_left
            · simp only [Act.put, List.setIfInBounds_toArray, List.set_cons_zero, List.set_cons_succ]
              rfl
            refine rg_take (i := 11) (N := some 54) (v := ?_) (a' := ?_) (bm 22 4095) rfl rfl (by kernel_rfl) (fun _ _ _ h => h) hHeld (Or.inl ⟨by rfl, ?_⟩) ?_ ?_
            rotate_left
            · intro w' hw'
              obtain ⟨ad2, A6, c6, hAd2, r0, r1, r2, r3, r4, r5, _, _⟩ := HAT.out w' hw'.bel
              obtain rfl := Option.some.inj hAd2
              go_simp
              with_reducible rfl
            rotate_left
            · simp only [Act.put, List.setIfInBounds_toArray, List.set_cons_zero, List.set_cons_succ]
              rfl
            refine rg_take (i := 12) (N := some 55) (v := ?_) (a' := ?_) (bm 22 8191) rfl rfl (by kernel_rfl) (fun _ _ _ h => h) hHeld (Or.inl ⟨by rfl, ?_⟩) ?_ ?_
            rotate_left
            · intro w' hw'
              obtain ⟨ad2, A6, c6, hAd2, r0, r1, r2, r3, r4, r5, _, _⟩ := HAT.out w' hw'.bel
              obtain rfl := Option.some.inj hAd2
              go_simp
              with_reducible rfl
            rotate_left
            · simp only [Act.put, List.setIfInBounds_toArray, List.set_cons_zero, List.set_cons_succ]
              rfl
            refine rg_take (i := 13) (N := some 56) (v := ?_) (a' := ?_) (bm 22 16383) rfl rfl (by kernel_rfl) (fun _ _ _ h => h) hHeld (Or.inl ⟨by rfl, ?_⟩) ?_ ?_
            rotate_left
            · intro w' hw'
              obtain ⟨ad2, A6, c6, hAd2, r0, r1, r2, r3, r4, r5, _, _⟩ := HAT.out w' hw'.bel
              obtain rfl := Option.some.inj hAd2
              go_simp
              with_reducible rfl
            rotate_left
            · simp only [Act.put, List.setIfInBounds_toArray, List.set_cons_zero, List.set_cons_succ]
              rfl
            refine rg_take (i := 14) (N := some 57) (v := ?_) (a' := ?_) (bm 22 32767) rfl rfl (by kernel_rfl) (fun _ _ _ h => h) hHeld (Or.inl ⟨by rfl, ?_⟩) ?_ ?_
            rotate_left
            · intro w' hw'
              obtain ⟨ad2, A6, c6, hAd2, r0, r1, r2, r3, r4, r5, _, _⟩ := HAT.out w' hw'.bel
              obtain rfl := Option.some.inj hAd2
              go_simp
              with_reducible rfl
            rotate_left
            · simp only [Act.put, List.setIfInBounds_toArray, List.set_cons_zero, List.set_cons_succ]
              rfl
            refine rg_take (i := 15) (N := some 58) (v := ?_) (a' := ?_) (bm 22 65535) rfl rfl (by kernel_rfl) (fun _ _ _ h => h) hHeld (Or.inl ⟨by rfl, ?_⟩) ?_ ?_
            rotate_left
            · intro w' hw'
              obtain ⟨ad2, A6, c6, hAd2, r0, r1, r2, r3, r4, r5, _, _⟩ := HAT.out w' hw'.bel
              obtain rfl := Option.some.inj hAd2
              go_simp
              with_reducible rfl
            rotate_left
            · simp only [Act.put, List.setIfInBounds_toArray, List.set_cons_zero, List.set_cons_succ]
              rfl
            refine rg_ready [16] (by kernel_rfl) (by simp) ?_
            refine rg_one (i := 16) (N := some 59) (bm 22 131071) rfl rfl (by kernel_rfl) (fun K hK => ?_) rg_nil
            have HWd : Aside0 (SB w wd _) := ⟨hwd.out ▸ HW.out.drew⟩
            go_simp
            go_at_call 16
            with_reducible refine (globAddH (p := p) HWd.out hgl x.f3 x.f4 x.f2 (by have := HOX.out; unfold okA at this; exact this.2.2) (by have := HOX.out; unfold okA at this; exact this.2.1) HADD.out).mono ?_
            rintro e wx16r10 ⟨rfl, hs⟩
            have HW2 := Aside0.mk hs
            have hnew := hs.pick [0]
            clear hs
            refine hK.out _ _ hnew ?_
            clear hK K
            refine rg_norm (a' := ?_) ?_ ?_
            rotate_left
            · simp only [Act.put, List.setIfInBounds_toArray, List.set_cons_zero, List.set_cons_succ]
              rfl
            clear hHeld
            have hHeld := hnew
            clear hnew
            refine rg_take (i := 17) (N := some 42) (v := ?_) (a' := ?_) (bm 22 262143) rfl rfl (by kernel_rfl) (fun _ _ _ h => h) hHeld (Or.inl ⟨by rfl, ?_⟩) ?_ ?_
            rotate_left
            · intro w' hw'
              obtain ⟨ad2, A6, c6, hAd2, r0, r1, r2, r3, r4, r5, _, _⟩ := HAT.out w' hw'.bel
              obtain rfl := Option.some.inj hAd2
              go_simp
              with_reducible rfl
            rotate_left
            · simp only [Act.put, List.setIfInBounds_toArray, List.set_cons_zero, List.set_cons_succ]
              rfl
            refine rg_take (i := 18) (N := some 60) (v := ?_) (a' := ?_) (bm 22 524287) rfl rfl (by kernel_rfl) (fun _ _ _ h => h) hHeld (Or.inl ⟨by rfl, ?_⟩) ?_ ?_
            rotate_left
            · intro w' hw'
              obtain ⟨ad2, A6, c6, hAd2, r0, r1, r2, r3, r4, r5, _, _⟩ := HAT.out w' hw'.bel
              obtain rfl := Option.some.inj hAd2
              go_simp
              with_reducible rfl
            rotate_left
            · simp only [Act.put, List.setIfInBounds_toArray, List.set_cons_zero, List.set_cons_succ]
              rfl
            refine rg_take (i := 19) (N := some 61) (v := ?_) (a' := ?_) (bm 22 1048575) rfl rfl (by kernel_rfl) (fun _ _ _ h => h) hHeld (Or.inl ⟨by rfl, ?_⟩) ?_ ?_
            rotate_left
            · intro w' hw'
              obtain ⟨ad2, A6, c6, hAd2, r0, r1, r2, r3, r4, r5, _, _⟩ := HAT.out w' hw'.bel
              obtain rfl := Option.some.inj hAd2
              go_simp
              with_reducible rfl
            rotate_left
            · simp only [Act.put, List.setIfInBounds_toArray, List.set_cons_zero, List.set_cons_succ]
              rfl
            refine rg_take (i := 20) (N := some 9) (v := ?_) (a' := ?_) (bm 22 2097151) rfl rfl (by kernel_rfl) (fun _ _ _ h => h) hHeld (Or.inl ⟨by rfl, ?_⟩) ?_ ?_
            rotate_left
            · intro w' hw'
              obtain ⟨ad2, A6, c6, hAd2, r0, r1, r2, r3, r4, r5, _, _⟩ := HAT.out w' hw'.bel
              obtain rfl := Option.some.inj hAd2
              go_simp
              with_reducible rfl
            rotate_left
            · simp only [Act.put, List.setIfInBounds_toArray, List.set_cons_zero, List.set_cons_succ]
              rfl
            refine rg_take (i := 21) (N := some 10) (v := ?_) (a' := ?_) (bm 22 4194303) rfl rfl (by kernel_rfl) (fun _ _ _ h => h) hHeld (Or.inl ⟨by rfl, ?_⟩) ?_ ?_
            rotate_left
            · intro w' hw'
              obtain ⟨ad2, A6, c6, hAd2, r0, r1, r2, r3, r4, r5, _, _⟩ := HAT.out w' hw'.bel
              obtain rfl := Option.some.inj hAd2
              go_simp
              with_reducible rfl
            rotate_left
            · simp only [Act.put, List.setIfInBounds_toArray, List.set_cons_zero, List.set_cons_succ]
              rfl
            refine rg_done (by kernel_rfl) ?_
            go_wp2
            refine ⟨⟨i + 1, gl, rfl, by omega, hgl, ⟨by rw [HWS.out]; exact HW2.out⟩⟩, ?_⟩
            show l.length - (intOf (.int .i64 ((i : Int) + 1))).toNat < _
            simp [intOf]
            omega
          · have HADD := Aside0.mk hadd
            clear hadd
            go_wp2
            refine rg_startL (n := 22) (S := fun w' => SB w w' [Row (Kd.int .u64) 35 (.slice A7 gl.length c7) ws]) (bm 22 0) (by kernel_rfl) rfl (by kernel_rfl) ((HW.out.drew.pick [0])) (fun wd hwd hHeld => ?_)
            refine rg_take (i := 0) (N := some 43) (v := ?_) (a' := ?_) (bm 22 1) rfl rfl (by kernel_rfl) (fun _ _ _ h => h) hHeld (Or.inl ⟨by rfl, ?_⟩) ?_ ?_
            rotate_left
            · intro w' hw'
              obtain ⟨ad2, A6, c6, hAd2, r0, r1, r2, r3, r4, r5, _, _⟩ := HAT.out w' hw'.bel
              obtain rfl := Option.some.inj hAd2
              go_simp
              with_reducible rfl
            rotate_left
            · simp only [Act.put, List.setIfInBounds_toArray, List.set_cons_zero, List.set_cons_succ]
              rfl
            refine rg_take (i := 1) (N := some 44) (v := ?_) (a' := ?_) (bm 22 3) rfl rfl (by kernel_rfl) (fun _ _ _ h => h) hHeld (Or.inl ⟨by rfl, ?_⟩) ?_ ?_
            rotate_left
            · intro w' hw'
              obtain ⟨ad2, A6, c6, hAd2, r0, r1, r2, r3, r4, r5, _, _⟩ := HAT.out w' hw'.bel
              obtain rfl := Option.some.inj hAd2
              go_simp
              with_reducible rfl
            rotate_left
            · simp only [Act.put, List.setIfInBounds_toArray, List.set_cons_zero, List.set_cons_succ]
              rfl
            refine rg_take (i := 2) (N := some 45) (v := ?_) (a' := ?_) (bm 22 7) rfl rfl (by kernel_rfl) (fun _ _ _ h => h) hHeld (Or.inl ⟨by rfl, ?_⟩) ?_ ?_
            rotate_left
            · intro w' hw'
              obtain ⟨ad2, A6, c6, hAd2, r0, r1, r2, r3, r4, r5, _, _⟩ := HAT.out w' hw'.bel
              obtain rfl := Option.some.inj hAd2
              go_simp
              with_reducible rfl
            rotate_left
            · simp only [Act.put, List.setIfInBounds_toArray, List.set_cons_zero, List.set_cons_succ]
              rfl
            refine rg_take (i := 3) (N := some 46) (v := ?_) (a' := ?_) (bm 22 15) rfl rfl (by kernel_rfl) (fun _ _ _ h => h) hHeld (Or.inl ⟨by rfl, ?_⟩) ?_ ?_
            rotate_left
            · intro w' hw'
              obtain ⟨ad2, A6, c6, hAd2, r0, r1, r2, r3, r4, r5, _, _⟩ := HAT.out w' hw'.bel
              obtain rfl := Option.some.inj hAd2
              go_simp
              with_reducible rfl
            rotate_left
            · simp only [Act.put, List.setIfInBounds_toArray, List.set_cons_zero, List.set_cons_succ]
              rfl
            refine rg_take (i := 4) (N := some 47) (v := ?_) (a' := ?_) (bm 22 31) rfl rfl (by kernel_rfl) (fun _ _ _ h => h) hHeld (Or.inl ⟨by rfl, ?_⟩) ?_ ?_
            rotate_left
            · intro w' hw'
              obtain ⟨ad2, A6, c6, hAd2, r0, r1, r2, r3, r4, r5, _, _⟩ := HAT.out w' hw'.bel
              obtain rfl := Option.some.inj hAd2
              go_simp
              with_reducible rfl
            rotate_left
            · simp only [Act.put, List.setIfInBounds_toArray, List.set_cons_zero, List.set_cons_succ]
              rfl
            refine rg_take (i := 5) (N := some 48) (v := ?_) (a' := ?_) (bm 22 63) rfl rfl (by kernel_rfl) (fun _ _ _ h => h) hHeld (Or.inl ⟨by rfl, ?_⟩) ?_ ?_
            rotate_left
            · intro w' hw'
              obtain ⟨ad2, A6, c6, hAd2, r0, r1, r2, r3, r4, r5, _, _⟩ := HAT.out w' hw'.bel
              obtain rfl := Option.some.inj hAd2
              go_simp
              with_reducible rfl
            rotate_left
            · simp only [Act.put, List.setIfInBounds_toArray, List.set_cons_zero, List.set_cons_succ]
              rfl
            refine rg_take (i := 6) (N := some 49) (v := ?_) (a' := ?_) (bm 22 127) rfl rfl (by kernel_rfl) (fun _ _ _ h => h) hHeld (Or.inl ⟨by rfl, ?_⟩) ?_ ?_
            rotate_left
            · intro w' hw'
              obtain ⟨ad2, A6, c6, hAd2, r0, r1, r2, r3, r4, r5, _, _⟩ := HAT.out w' hw'.bel
              obtain rfl := Option.some.inj hAd2
              go_simp
              with_reducible rfl
            rotate_left
            · simp only [Act.put, List.setIfInBounds_toArray, List.set_cons_zero, List.set_cons_succ]
              rfl
            refine rg_take (i := 7) (N := some 50) (v := ?_) (a' := ?_) (bm 22 255) rfl rfl (by kernel_rfl) (fun _ _ _ h => h) hHeld (Or.inl ⟨by rfl, ?_⟩) ?_ ?_
            rotate_left
            · intro w' hw'
              obtain ⟨ad2, A6, c6, hAd2, r0, r1, r2, r3, r4, r5, _, _⟩ := HAT.out w' hw'.bel
              obtain rfl := Option.some.inj hAd2
              go_simp
              with_reducible rfl
            rotate_left
            · simp only [Act.put, List.setIfInBounds_toArray, List.set_cons_zero, List.set_cons_succ]
              rfl
            refine rg_take (i := 8) (N := some 51) (v := ?_) (a' := ?_) (bm 22 511) rfl rfl (by kernel_rfl) (fun _ _ _ h => h) hHeld (Or.inl ⟨by rfl, ?_⟩) ?_ ?_
            rotate_left
            · intro w' hw'
              obtain ⟨ad2, A6, c6, hAd2, r0, r1, r2, r3, r4, r5, _, _⟩ := HAT.out w' hw'.bel
              obtain rfl := Option.some.inj hAd2
              go_simp
              with_reducible rfl
            rotate_left
            · simp only [Act.put, List.setIfInBounds_toArray, List.set_cons_zero, List.set_cons_succ]
              rfl
            refine rg_take (i := 9) (N := some 52) (v := ?_) (a' := ?_) (bm 22 1023) rfl rfl (by kernel_rfl) (fun _ _ _ h => h) hHeld (Or.inl ⟨by rfl, ?_⟩) ?_ ?_
            rotate_left
            · intro w' hw'
              obtain ⟨ad2, A6, c6, hAd2, r0, r1, r2, r3, r4, r5, _, _⟩ := HAT.out w' hw'.bel
              obtain rfl := Option.some.inj hAd2
              go_simp
              with_reducible rfl
            rotate_left
            · simp only [Act.put, List.setIfInBounds_toArray, List.set_cons_zero, List.set_cons_succ]
              rfl
            refine rg_take (i := 10) (N := some 53) (v := ?_) (a' := ?_) (bm 22 2047) rfl rfl (by kernel_rfl) (fun _ _ _ h => h) hHeld (Or.inl ⟨by rfl, ?_⟩) ?_ ?_
            rotate_left
            · intro w' hw'
              obtain ⟨ad2, A6, c6, hAd2, r0, r1, r2, r3, r4, r5, _, _⟩ := HAT.out w' hw'.bel
              obtain rfl := Option.some.inj hAd2
              go_simp
              with_reducible rfl
            rotate_left
            · simp only [Act.put, List.setIfInBounds_toArray, List.set_cons_zero, List.set_cons_succ]
              rfl
            refine rg_take (i := 11) (N := some 54) (v := ?_) (a' := ?_) (bm 22 4095) rfl rfl (by kernel_rfl) (fun _ _ _ h => h) hHeld (Or.inl ⟨by rfl, ?_⟩) ?_ ?_
            rotate_left
            · intro w' hw'
              obtain ⟨ad2, A6, c6, hAd2, r0, r1, r2, r3, r4, r5, _, _⟩ := HAT.out w' hw'.bel
              obtain rfl := Option.some.inj hAd2
              go_simp
              with_reducible rfl
            rotate_left
            · simp only [Act.put, List.setIfInBounds_toArray, List.set_cons_zero, List.set_cons_succ]
              rfl
            refine rg_take (i := 12) (N := some 55) (v := ?_) (a' := ?_) (bm 22 8191) rfl rfl (by kernel_rfl) (fun _ _ _ h => h) hHeld (Or.inl ⟨by rfl, ?_⟩) ?_ ?_
            rotate_left
            · intro w' hw'
              obtain ⟨ad2, A6, c6, hAd2, r0, r1, r2, r3, r4, r5, _, _⟩ := HAT.out w' hw'.bel
              obtain rfl := Option.some.inj hAd2
              go_simp
              with_reducible rfl
            rotate_left
            · simp only [Act.put, List.setIfInBounds_toArray, List.set_cons_zero, List.set_cons_succ]
              rfl
            refine rg_take (i := 13) (N := some 56) (v := ?_) (a' := ?_) (bm 22 16383) rfl rfl (by kernel_rfl) (fun _ _ _ h => h) hHeld (Or.inl ⟨by rfl, ?_⟩) ?_ ?_
            rotate_left
            · intro w' hw'
              obtain ⟨ad2, A6, c6, hAd2, r0, r1, r2, r3, r4, r5, _, _⟩ := HAT.out w' hw'.bel
              obtain rfl := Option.some.inj hAd2
              go_simp
              with_reducible rfl
            rotate_left
            · simp only [Act.put, List.setIfInBounds_toArray, List.set_cons_zero, List.set_cons_succ]
              rfl
            refine rg_take (i := 14) (N := some 57) (v := ?_) (a' := ?_) (bm 22 32767) rfl rfl (by kernel_rfl) (fun _ _ _ h => h) hHeld (Or.inl ⟨by rfl, ?_⟩) ?_ ?_
            rotate_left
            · intro w' hw'
              obtain ⟨ad2, A6, c6, hAd2, r0, r1, r2, r3, r4, r5, _, _⟩ := HAT.out w' hw'.bel
              obtain rfl := Option.some.inj hAd2
              go_simp
              with_reducible rfl
            rotate_left
            · simp only [Act.put, List.setIfInBounds_toArray, List.set_cons_zero, List.set_cons_succ]
              rfl
            refine rg_take (i := 15) (N := some 58) (v := ?_) (a' := ?_) (bm 22 65535) rfl rfl (by kernel_rfl) (fun _ _ _ h => h) hHeld (Or.inl ⟨by rfl, ?_⟩) ?_ ?_
            rotate_left
            · intro w' hw'
              obtain ⟨ad2, A6, c6, hAd2, r0, r1, r2, r3, r4, r5, _, _⟩ := HAT.out w' hw'.bel
              obtain rfl := Option.some.inj hAd2
              go_simp
              with_reducible rfl
            rotate_left
            · simp only [Act.put, List.setIfInBounds_toArray, List.set_cons_zero, List.set_cons_succ]
              rfl
            refine rg_ready [16] (by kernel_rfl) (by simp) ?_
            refine rg_one (i := 16) (N := some 59) (bm 22 131071) rfl rfl (by kernel_rfl) (fun K hK => ?_) rg_nil
            have HWd : Aside0 (SB w wd _) := ⟨hwd.out ▸ HW.out.drew⟩
            go_simp
            go_at_call 16
            with_reducible refine (globAddH (p := p) HWd.out hgl x.f3 x.f4 x.f2 (by have := HOX.out; unfold okA at this; exact this.2.2) (by have := HOX.out; unfold okA at this; exact this.2.1) HADD.out).mono ?_
            rintro e wx16r10 ⟨rfl, hs⟩
            have HW2 := Aside0.mk hs
            have hnew := hs.pick [0]
            clear hs
            refine hK.out _ _ hnew ?_
            clear hK K
            refine rg_norm (a' := ?_) ?_ ?_
            rotate_left
            · simp only [Act.put, List.setIfInBounds_toArray, List.set_cons_zero, List.set_cons_succ]
              rfl
            clear hHeld
            have hHeld := hnew
            clear hnew
            refine rg_take (i := 17) (N := some 42) (v := ?_) (a' := ?_) (bm 22 262143) rfl rfl (by kernel_rfl) (fun _ _ _ h => h) hHeld (Or.inl ⟨by rfl, ?_⟩) ?_ ?_
            rotate_left
            · intro w' hw'
              obtain ⟨ad2, A6, c6, hAd2, r0, r1, r2, r3, r4, r5, _, _⟩ := HAT.out w' hw'.bel
              obtain rfl := Option.some.inj hAd2
              go_simp
              with_reducible rfl
            rotate_left
            · simp only [Act.put, List.setIfInBounds_toArray, List.set_cons_zero, List.set_cons_succ]
              rfl
            refine rg_take (i := 18) (N := some 60) (v := ?_) (a' := ?_) (bm 22 524287) rfl rfl (by kernel_rfl) (fun _ _ _ h => h) hHeld (Or.inl ⟨by rfl, ?_⟩) ?_ ?_
            rotate_left
            · intro w' hw'
              obtain ⟨ad2, A6, c6, hAd2, r0, r1, r2, r3, r4, r5, _, _⟩ := HAT.out w' hw'.bel
              obtain rfl := Option.some.inj hAd2
              go_simp
              with_reducible rfl
            rotate_left
            · simp only [Act.put, List.setIfInBounds_toArray, List.set_cons_zero, List.set_cons_succ]
              rfl
            refine rg_take (i := 19) (N := some 61) (v := ?_) (a' := ?_) (bm 22 1048575) rfl rfl (by kernel_rfl) (fun _ _ _ h => h) hHeld (Or.inl ⟨by rfl, ?_⟩) ?_ ?_
            rotate_left
            · intro w' hw'
              obtain ⟨ad2, A6, c6, hAd2, r0, r1, r2, r3, r4, r5, _, _⟩ := HAT.out w' hw'.bel
              obtain rfl := Option.some.inj hAd2
              go_simp
              with_reducible rfl
            rotate_left
            · simp only [Act.put, List.setIfInBounds_toArray, List.set_cons_zero, List.set_cons_succ]
              rfl
            refine rg_take (i := 20) (N := some 9) (v := ?_) (a' := ?_) (bm 22 2097151) rfl rfl (by kernel_rfl) (fun _ _ _ h => h) hHeld (Or.inl ⟨by rfl, ?_⟩) ?_ ?_
            rotate_left
            · intro w' hw'
              obtain ⟨ad2, A6, c6, hAd2, r0, r1, r2, r3, r4, r5, _, _⟩ := HAT.out w' hw'.bel
              obtain rfl := Option.some.inj hAd2
              go_simp
              with_reducible rfl
            rotate_left
            · simp only [Act.put, List.setIfInBounds_toArray, List.set_cons_zero, List.set_cons_succ]
              rfl
            refine rg_take (i := 21) (N := some 10) (v := ?_) (a' := ?_) (bm 22 4194303) rfl rfl (by kernel_rfl) (fun _ _ _ h => h) hHeld (Or.inl ⟨by rfl, ?_⟩) ?_ ?_
            rotate_left
            · intro w' hw'
              obtain ⟨ad2, A6, c6, hAd2, r0, r1, r2, r3, r4, r5, _, _⟩ := HAT.out w' hw'.bel
              obtain rfl := Option.some.inj hAd2
              go_simp
              with_reducible rfl
            rotate_left
            · simp only [Act.put, List.setIfInBounds_toArray, List.set_cons_zero, List.set_cons_succ]
              rfl
            refine rg_done (by kernel_rfl) ?_
            go_wp2
            refine ⟨⟨i + 1, gl, rfl, by omega, hgl, ⟨by rw [HWS.out]; exact HW2.out⟩⟩, ?_⟩
            show l.length - (intOf (.int .i64 ((i : Int) + 1))).toNat < _
            simp [intOf]
            omega
          · have HADD := Aside0.mk hadd
            have HFIT := Aside0.mk (fitsF x.f3 x.f2 (by have := HOX.out; unfold okA at this; exact this.2.1))
            rw [hfit] at HFIT
            clear hadd hfit
            go_wp2
            refine rg_startL (n := 22) (S := fun w' => SB w w' [Row (Kd.int .u64) 35 (.slice A7 gl.length c7) ws]) (bm 22 0) (by kernel_rfl) rfl (by kernel_rfl) ((HW.out.drew.pick [0])) (fun wd hwd hHeld => ?_)
            refine rg_take (i := 0) (N := some 43) (v := ?_) (a' := ?_) (bm 22 1) rfl rfl (by kernel_rfl) (fun _ _ _ h => h) hHeld (Or.inl ⟨by rfl, ?_⟩) ?_ ?_
            rotate_left
            · intro w' hw'
              obtain ⟨ad2, A6, c6, hAd2, r0, r1, r2, r3, r4, r5, _, _⟩ := HAT.out w' hw'.bel
              obtain rfl := Option.some.inj hAd2
              go_simp
              with_reducible rfl
            rotate_left
            · simp only [Act.put, List.setIfInBounds_toArray, List.set_cons_zero, List.set_cons_succ]
              rfl
            refine rg_take (i := 1) (N := some 44) (v := ?_) (a' := ?_) (bm 22 3) rfl rfl (by kernel_rfl) (fun _ _ _ h => h) hHeld (Or.inl ⟨by rfl, ?_⟩) ?_ ?_
            rotate_left
            · intro w' hw'
              obtain ⟨ad2, A6, c6, hAd2, r0, r1, r2, r3, r4, r5, _, _⟩ := HAT.out w' hw'.bel
              obtain rfl := Option.some.inj hAd2
              go_simp
              with_reducible rfl
            rotate_left
            · simp only [Act.put, List.setIfInBounds_toArray, List.set_cons_zero, List.set_cons_succ]
              rfl
            refine rg_take (i := 2) (N := some 45) (v := ?_) (a' := ?_) (bm 22 7) rfl rfl (by kernel_rfl) (fun _ _ _ h => h) hHeld (Or.inl ⟨by rfl, ?_⟩) ?_ ?_
            rotate_left
            · intro w' hw'
              obtain ⟨ad2, A6, c6, hAd2, r0, r1, r2, r3, r4, r5, _, _⟩ := HAT.out w' hw'.bel
              obtain rfl := Option.some.inj hAd2
              go_simp
              with_reducible rfl
            rotate_left
            · simp only [Act.put, List.setIfInBounds_toArray, List.set_cons_zero, List.set_cons_succ]
              rfl
            refine rg_take (i := 3) (N := some 46) (v := ?_) (a' := ?_) (bm 22 15) rfl rfl (by kernel_rfl) (fun _ _ _ h => h) hHeld (Or.inl ⟨by rfl, ?_⟩) ?_ ?_
            rotate_left
            · intro w' hw'
              obtain ⟨ad2, A6, c6, hAd2, r0, r1, r2, r3, r4, r5, _, _⟩ := HAT.out w' hw'.bel
              obtain rfl := Option.some.inj hAd2
              go_simp
              with_reducible rfl
            rotate_left
            · simp only [Act.put, List.setIfInBounds_toArray, List.set_cons_zero, List.set_cons_succ]
              rfl
            refine rg_take (i := 4) (N := some 47) (v := ?_) (a' := ?_) (bm 22 31) rfl rfl (by kernel_rfl) (fun _ _ _ h => h) hHeld (Or.inl ⟨by rfl, ?_⟩) ?_ ?_
            rotate_left
            · intro w' hw'
              obtain ⟨ad2, A6, c6, hAd2, r0, r1, r2, r3, r4, r5, _, _⟩ := HAT.out w' hw'.bel
              obtain rfl := Option.some.inj hAd2
              go_simp
              with_reducible rfl
            rotate_left
            · simp only [Act.put, List.setIfInBounds_toArray, List.set_cons_zero, List.set_cons_succ]
              rfl
            refine rg_take (i := 5) (N := some 48) (v := ?_) (a' := ?_) (bm 22 63) rfl rfl (by kernel_rfl) (fun _ _ _ h => h) hHeld (Or.inl ⟨by rfl, ?_⟩) ?_ ?_
            rotate_left
            · intro w' hw'
              obtain ⟨ad2, A6, c6, hAd2, r0, r1, r2, r3, r4, r5, _, _⟩ := HAT.out w' hw'.bel
              obtain rfl := Option.some.inj hAd2
              go_simp
              with_reducible rfl
            rotate_left
            · simp only [Act.put, List.setIfInBounds_toArray, List.set_cons_zero, List.set_cons_succ]
              rfl
            refine rg_take (i := 6) (N := some 49) (v := ?_) (a' := ?_) (bm 22 127) rfl rfl (by kernel_rfl) (fun _ _ _ h => h) hHeld (Or.inl ⟨by rfl, ?_⟩) ?_ ?_
            rotate_left
            · intro w' hw'
              obtain ⟨ad2, A6, c6, hAd2, r0, r1, r2, r3, r4, r5, _, _⟩ := HAT.out w' hw'.bel
              obtain rfl := Option.some.inj hAd2
              go_simp
              with_reducible rfl
            rotate_left
            · simp only [Act.put, List.setIfInBounds_toArray, List.set_cons_zero, List.set_cons_succ]
              rfl
            refine rg_take (i := 7) (N := some 50) (v := ?_) (a' := ?_) (bm 22 255) rfl rfl (by kernel_rfl) (fun _ _ _ h => h) hHeld (Or.inl ⟨by rfl, ?_⟩) ?_ ?_
            rotate_left
            · intro w' hw'
              obtain ⟨ad2, A6, c6, hAd2, r0, r1, r2, r3, r4, r5, _, _⟩ := HAT.out w' hw'.bel
              obtain rfl := Option.some.inj hAd2
              go_simp
              with_reducible rfl
            rotate_left
            · simp only [Act.put, List.setIfInBounds_toArray, List.set_cons_zero, List.set_cons_succ]
              rfl
            refine rg_take (i := 8) (N := some 51) (v := ?_) (a' := ?_) (bm 22 511) rfl rfl (by kernel_rfl) (fun _ _ _ h => h) hHeld (Or.inl ⟨by rfl, ?_⟩) ?_ ?_
            rotate_left
            · intro w' hw'
              obtain ⟨ad2, A6, c6, hAd2, r0, r1, r2, r3, r4, r5, _, _⟩ := HAT.out w' hw'.bel
              obtain rfl := Option.some.inj hAd2
              go_simp
              with_reducible rfl
            rotate_left
            · simp only [Act.put, List.setIfInBounds_toArray, List.set_cons_zero, List.set_cons_succ]
              rfl
            refine rg_take (i := 9) (N := some 52) (v := ?_) (a' := ?_) (bm 22 1023) rfl rfl (by kernel_rfl) (fun _ _ _ h => h) hHeld (Or.inl ⟨by rfl, ?_⟩) ?_ ?_
            rotate_left
            · intro w' hw'
              obtain ⟨ad2, A6, c6, hAd2, r0, r1, r2, r3, r4, r5, _, _⟩ := HAT.out w' hw'.bel
              obtain rfl := Option.some.inj hAd2
              go_simp
              with_reducible rfl
            rotate_left
            · simp only [Act.put, List.setIfInBounds_toArray, List.set_cons_zero, List.set_cons_succ]
              rfl
            refine rg_take (i := 10) (N := some 53) (v := ?_) (a' := ?_) (bm 22 2047) rfl rfl (by kernel_rfl) (fun _ _ _ h => h) hHeld (Or.inl ⟨by rfl, ?_⟩) ?_ ?_
            rotate_left
            · intro w' hw'
              obtain ⟨ad2, A6, c6, hAd2, r0, r1, r2, r3, r4, r5, _, _⟩ := HAT.out w' hw'.bel
              obtain rfl := Option.some.inj hAd2
              go_simp
              with_reducible rfl
            rotate_left
            · simp only [Act.put, List.setIfInBounds_toArray, List.set_cons_zero, List.set_cons_succ]
              rfl
            refine rg_take (i := 11) (N := some 54) (v := ?_) (a' := ?_) (bm 22 4095) rfl rfl (by kernel_rfl) (fun _ _ _ h => h) hHeld (Or.inl ⟨by rfl, ?_⟩) ?_ ?_
            rotate_left
            · intro w' hw'
              obtain ⟨ad2, A6, c6, hAd2, r0, r1, r2, r3, r4, r5, _, _⟩ := HAT.out w' hw'.bel
              obtain rfl := Option.some.inj hAd2
              go_simp
              with_reducible rfl
            rotate_left
            · simp only [Act.put, List.setIfInBounds_toArray, List.set_cons_zero, List.set_cons_succ]
              rfl
            refine rg_take (i := 12) (N := some 55) (v := ?_) (a' := ?_) (bm 22 8191) rfl rfl (by kernel_rfl) (fun _ _ _ h => h) hHeld (Or.inl ⟨by rfl, ?_⟩) ?_ ?_
            rotate_left
            · intro w' hw'
              obtain ⟨ad2, A6, c6, hAd2, r0, r1, r2, r3, r4, r5, _, _⟩ := HAT.out w' hw'.bel
              obtain rfl := Option.some.inj hAd2
              go_simp
              with_reducible rfl
            rotate_left
            · simp only [Act.put, List.setIfInBounds_toArray, List.set_cons_zero, List.set_cons_succ]
              rfl
            refine rg_take (i := 13) (N := some 56) (v := ?_) (a' := ?_) (bm 22 16383) rfl rfl (by kernel_rfl) (fun _ _ _ h => h) hHeld (Or.inl ⟨by rfl, ?_⟩) ?_ ?_
            rotate_left
            · intro w' hw'
              obtain ⟨ad2, A6, c6, hAd2, r0, r1, r2, r3, r4, r5, _, _⟩ := HAT.out w' hw'.bel
              obtain rfl := Option.some.inj hAd2
              go_simp
              with_reducible rfl
            rotate_left
            · simp only [Act.put, List.setIfInBounds_toArray, List.set_cons_zero, List.set_cons_succ]
              rfl
            refine rg_take (i := 14) (N := some 57) (v := ?_) (a' := ?_) (bm 22 32767) rfl rfl (by kernel_rfl) (fun _ _ _ h => h) hHeld (Or.inl ⟨by rfl, ?_⟩) ?_ ?_
            rotate_left
            · intro w' hw'
              obtain ⟨ad2, A6, c6, hAd2, r0, r1, r2, r3, r4, r5, _, _⟩ := HAT.out w' hw'.bel
              obtain rfl := Option.some.inj hAd2
              go_simp
              with_reducible rfl
            rotate_left
            · simp only [Act.put, List.setIfInBounds_toArray, List.set_cons_zero, List.set_cons_succ]
              rfl
            refine rg_take (i := 15) (N := some 58) (v := ?_) (a' := ?_) (bm 22 65535) rfl rfl (by kernel_rfl) (fun _ _ _ h => h) hHeld (Or.inl ⟨by rfl, ?_⟩) ?_ ?_
            rotate_left
            · intro w' hw'
              obtain ⟨ad2, A6, c6, hAd2, r0, r1, r2, r3, r4, r5, _, _⟩ := HAT.out w' hw'.bel
              obtain rfl := Option.some.inj hAd2
              go_simp
              with_reducible rfl
            rotate_left
            · simp only [Act.put, List.setIfInBounds_toArray, List.set_cons_zero, List.set_cons_succ]
              rfl
            refine rg_ready [16] (by kernel_rfl) (by simp) ?_
            refine rg_one (i := 16) (N := some 59) (bm 22 131071) rfl rfl (by kernel_rfl) (fun K hK => ?_) rg_nil
            have HWd : Aside0 (SB w wd _) := ⟨hwd.out ▸ HW.out.drew⟩
            go_simp
            go_at_call 16
            with_reducible refine (globAddH (p := p) HWd.out hgl x.f3 x.f4 x.f2 (by have := HOX.out; unfold okA at this; exact this.2.2) (by have := HOX.out; unfold okA at this; exact this.2.1) HADD.out).mono ?_
            rintro e wx16r10 ⟨rfl, hs⟩
            have HW2 := Aside0.mk hs
            have hnew := hs.pick [0]
            clear hs
            refine hK.out _ _ hnew ?_
            clear hK K
            refine rg_norm (a' := ?_) ?_ ?_
            rotate_left
            · simp only [Act.put, List.setIfInBounds_toArray, List.set_cons_zero, List.set_cons_succ]
              rfl
            clear hHeld
            have hHeld := hnew
            clear hnew
            refine rg_take (i := 17) (N := some 42) (v := ?_) (a' := ?_) (bm 22 262143) rfl rfl (by kernel_rfl) (fun _ _ _ h => h) hHeld (Or.inl ⟨by rfl, ?_⟩) ?_ ?_
            rotate_left
            · intro w' hw'
              obtain ⟨ad2, A6, c6, hAd2, r0, r1, r2, r3, r4, r5, _, _⟩ := HAT.out w' hw'.bel
              obtain rfl := Option.some.inj hAd2
              go_simp
              with_reducible rfl
            rotate_left
            · simp only [Act.put, List.setIfInBounds_toArray, List.set_cons_zero, List.set_cons_succ]
              rfl
            refine rg_take (i := 18) (N := some 60) (v := ?_) (a' := ?_) (bm 22 524287) rfl rfl (by kernel_rfl) (fun _ _ _ h => h) hHeld (Or.inl ⟨by rfl, ?_⟩) ?_ ?_
            rotate_left
            · intro w' hw'
              obtain ⟨ad2, A6, c6, hAd2, r0, r1, r2, r3, r4, r5, _, _⟩ := HAT.out w' hw'.bel
              obtain rfl := Option.some.inj hAd2
              go_simp
              with_reducible rfl
            rotate_left
            · simp only [Act.put, List.setIfInBounds_toArray, List.set_cons_zero, List.set_cons_succ]
              rfl
            refine rg_take (i := 19) (N := some 61) (v := ?_) (a' := ?_) (bm 22 1048575) rfl rfl (by kernel_rfl) (fun _ _ _ h => h) hHeld (Or.inl ⟨by rfl, ?_⟩) ?_ ?_
            rotate_left
            · intro w' hw'
              obtain ⟨ad2, A6, c6, hAd2, r0, r1, r2, r3, r4, r5, _, _⟩ := HAT.out w' hw'.bel
              obtain rfl := Option.some.inj hAd2
              go_simp
              with_reducible rfl
            rotate_left
            · simp only [Act.put, List.setIfInBounds_toArray, List.set_cons_zero, List.set_cons_succ]
              rfl
            refine rg_take (i := 20) (N := some 9) (v := ?_) (a' := ?_) (bm 22 2097151) rfl rfl (by kernel_rfl) (fun _ _ _ h => h) hHeld (Or.inl ⟨by rfl, ?_⟩) ?_ ?_
            rotate_left
            · intro w' hw'
              obtain ⟨ad2, A6, c6, hAd2, r0, r1, r2, r3, r4, r5, _, _⟩ := HAT.out w' hw'.bel
              obtain rfl := Option.some.inj hAd2
              go_simp
              with_reducible rfl
            rotate_left
            · simp only [Act.put, List.setIfInBounds_toArray, List.set_cons_zero, List.set_cons_succ]
              rfl
            refine rg_take (i := 21) (N := some 10) (v := ?_) (a' := ?_) (bm 22 4194303) rfl rfl (by kernel_rfl) (fun _ _ _ h => h) hHeld (Or.inl ⟨by rfl, ?_⟩) ?_ ?_
            rotate_left
            · intro w' hw'
              obtain ⟨ad2, A6, c6, hAd2, r0, r1, r2, r3, r4, r5, _, _⟩ := HAT.out w' hw'.bel
              obtain rfl := Option.some.inj hAd2
              go_simp
              with_reducible rfl
            rotate_left
            · simp only [Act.put, List.setIfInBounds_toArray, List.set_cons_zero, List.set_cons_succ]
              rfl
            refine rg_done (by kernel_rfl) ?_
            go_wp2
            refine rg_start (n := 18) (S := fun w' => SB w w' [Row (Kd.int .u64) 35 (.slice A7 gl.length c7) ws, GO p (gl ++ [⟨x.f3, x.f4, x.f2⟩])]) (bm 18 0) (by kernel_rfl) rfl (by kernel_rfl) ((HW2.out.drew)) (fun hHeld => ?_)
            refine rg_take (i := 0) (N := some 64) (v := ?_) (a' := ?_) (bm 18 1) rfl rfl (by kernel_rfl) (fun _ _ _ h => h) hHeld (Or.inl ⟨by rfl, ?_⟩) ?_ ?_
            rotate_left
            · intro w' hw'
              obtain ⟨ad2, A6, c6, hAd2, r0, r1, r2, r3, r4, r5, _, _⟩ := HAT.out w' hw'.bel
              obtain rfl := Option.some.inj hAd2
              go_simp
              with_reducible rfl
            rotate_left
            · simp only [Act.put, List.setIfInBounds_toArray, List.set_cons_zero, List.set_cons_succ]
              rfl
            refine rg_take (i := 1) (N := some 65) (v := ?_) (a' := ?_) (bm 18 3) rfl rfl (by kernel_rfl) (fun _ _ _ h => h) hHeld (Or.inl ⟨by rfl, ?_⟩) ?_ ?_
            rotate_left
            · intro w' hw'
              obtain ⟨ad2, A6, c6, hAd2, r0, r1, r2, r3, r4, r5, _, _⟩ := HAT.out w' hw'.bel
              obtain rfl := Option.some.inj hAd2
              go_simp
              with_reducible rfl
            rotate_left
            · simp only [Act.put, List.setIfInBounds_toArray, List.set_cons_zero, List.set_cons_succ]
              rfl
            refine rg_take (i := 2) (N := some 66) (v := ?_) (a' := ?_) (bm 18 7) rfl rfl (by kernel_rfl) (fun _ _ _ h => h) hHeld (Or.inl ⟨by rfl, ?_⟩) ?_ ?_
            rotate_left
            · intro w' hw'
              obtain ⟨ad2, A6, c6, hAd2, r0, r1, r2, r3, r4, r5, _, _⟩ := HAT.out w' hw'.bel
              obtain rfl := Option.some.inj hAd2
              go_simp
              with_reducible rfl
            rotate_left
            · simp only [Act.put, List.setIfInBounds_toArray, List.set_cons_zero, List.set_cons_succ]
              rfl
            refine rg_take (i := 3) (N := some 67) (v := ?_) (a' := ?_) (bm 18 15) rfl rfl (by kernel_rfl) (fun _ _ _ h => h) hHeld (Or.inl ⟨by rfl, ?_⟩) ?_ ?_
            rotate_left
            · intro w' hw'
              obtain ⟨ad2, A6, c6, hAd2, r0, r1, r2, r3, r4, r5, _, _⟩ := HAT.out w' hw'.bel
              obtain rfl := Option.some.inj hAd2
              go_simp
              with_reducible rfl
            rotate_left
            · simp only [Act.put, List.setIfInBounds_toArray, List.set_cons_zero, List.set_cons_succ]
              rfl
            refine rg_take (i := 4) (N := some 68) (v := ?_) (a' := ?_) (bm 18 31) rfl rfl (by kernel_rfl) (fun _ _ _ h => h) hHeld (Or.inl ⟨by rfl, ?_⟩) ?_ ?_
            rotate_left
            · intro w' hw'
              obtain ⟨ad2, A6, c6, hAd2, r0, r1, r2, r3, r4, r5, _, _⟩ := HAT.out w' hw'.bel
              obtain rfl := Option.some.inj hAd2
              go_simp
              with_reducible rfl
            rotate_left
            · simp only [Act.put, List.setIfInBounds_toArray, List.set_cons_zero, List.set_cons_succ]
              rfl
            refine rg_take (i := 5) (N := some 69) (v := ?_) (a' := ?_) (bm 18 63) rfl rfl (by kernel_rfl) (fun _ _ _ h => h) hHeld (Or.inl ⟨by rfl, ?_⟩) ?_ ?_
            rotate_left
            · intro w' hw'
              obtain ⟨ad2, A6, c6, hAd2, r0, r1, r2, r3, r4, r5, _, _⟩ := HAT.out w' hw'.bel
              obtain rfl := Option.some.inj hAd2
              go_simp
              with_reducible rfl
            rotate_left
            · simp only [Act.put, List.setIfInBounds_toArray, List.set_cons_zero, List.set_cons_succ]
              rfl
            refine rg_take (i := 6) (N := some 70) (v := ?_) (a' := ?_) (bm 18 127) rfl rfl (by kernel_rfl) (fun _ _ _ h => h) hHeld (Or.inl ⟨by rfl, ?_⟩) ?_ ?_
            rotate_left
            · intro w' hw'
              obtain ⟨ad2, A6, c6, hAd2, r0, r1, r2, r3, r4, r5, _, _⟩ := HAT.out w' hw'.bel
              obtain rfl := Option.some.inj hAd2
              go_simp
              with_reducible rfl
            rotate_left
            · simp only [Act.put, List.setIfInBounds_toArray, List.set_cons_zero, List.set_cons_succ]
              rfl
            refine rg_take (i := 7) (N := some 71) (v := ?_) (a' := ?_) (bm 18 255) rfl rfl (by kernel_rfl) (fun _ _ _ h => h) hHeld (Or.inl ⟨by rfl, ?_⟩) ?_ ?_
            rotate_left
            · intro w' hw'
              obtain ⟨ad2, A6, c6, hAd2, r0, r1, r2, r3, r4, r5, _, _⟩ := HAT.out w' hw'.bel
              obtain rfl := Option.some.inj hAd2
              go_simp
              with_reducible rfl
            rotate_left
            · simp only [Act.put, List.setIfInBounds_toArray, List.set_cons_zero, List.set_cons_succ]
              rfl
            refine rg_take (i := 8) (N := some 72) (v := ?_) (a' := ?_) (bm 18 511) rfl rfl (by kernel_rfl) (fun _ _ _ h => h) hHeld (Or.inl ⟨by rfl, ?_⟩) ?_ ?_
            rotate_left
            · intro w' hw'
              obtain ⟨ad2, A6, c6, hAd2, r0, r1, r2, r3, r4, r5, _, _⟩ := HAT.out w' hw'.bel
              obtain rfl := Option.some.inj hAd2
              go_simp
              with_reducible rfl
            rotate_left
            · simp only [Act.put, List.setIfInBounds_toArray, List.set_cons_zero, List.set_cons_succ]
              rfl
            refine rg_take (i := 9) (N := some 73) (v := ?_) (a' := ?_) (bm 18 1023) rfl rfl (by kernel_rfl) (fun _ _ _ h => h) hHeld (Or.inl ⟨by rfl, ?_⟩) ?_ ?_
            rotate_left
            · intro w' hw'
              obtain ⟨ad2, A6, c6, hAd2, r0, r1, r2, r3, r4, r5, _, _⟩ := HAT.out w' hw'.bel
              obtain rfl := Option.some.inj hAd2
              go_simp
              with_reducible rfl
            rotate_left
            · simp only [Act.put, List.setIfInBounds_toArray, List.set_cons_zero, List.set_cons_succ]
              rfl
            refine rg_take (i := 10) (N := some 74) (v := ?_) (a' := ?_) (bm 18 2047) rfl rfl (by kernel_rfl) (fun _ _ _ h => h) hHeld (Or.inl ⟨by rfl, ?_⟩) ?_ ?_
            rotate_left
            · intro w' hw'
              obtain ⟨ad2, A6, c6, hAd2, r0, r1, r2, r3, r4, r5, _, _⟩ := HAT.out w' hw'.bel
              obtain rfl := Option.some.inj hAd2
              go_simp
              with_reducible rfl
            rotate_left
            · simp only [Act.put, List.setIfInBounds_toArray, List.set_cons_zero, List.set_cons_succ]
              rfl
            refine rg_take (i := 11) (N := some 75) (v := ?_) (a' := ?_) (bm 18 4095) rfl rfl (by kernel_rfl) (fun _ _ _ h => h) hHeld (Or.inl ⟨by rfl, ?_⟩) ?_ ?_
            rotate_left
            · intro w' hw'
              obtain ⟨ad2, A6, c6, hAd2, r0, r1, r2, r3, r4, r5, _, _⟩ := HAT.out w' hw'.bel
              obtain rfl := Option.some.inj hAd2
              go_simp
              with_reducible rfl
            rotate_left
            · simp only [Act.put, List.setIfInBounds_toArray, List.set_cons_zero, List.set_cons_succ]
              rfl
            refine rg_take (i := 12) (N := some 76) (v := ?_) (a' := ?_) (bm 18 8191) rfl rfl (by kernel_rfl) (fun _ _ _ h => h) hHeld (Or.inl ⟨by rfl, ?_⟩) ?_ ?_
            rotate_left
            · intro w' hw'
              obtain ⟨ad2, A6, c6, hAd2, r0, r1, r2, r3, r4, r5, _, _⟩ := HAT.out w' hw'.bel
              obtain rfl := Option.some.inj hAd2
              go_simp
              with_reducible rfl
            rotate_left
            · simp only [Act.put, List.setIfInBounds_toArray, List.set_cons_zero, List.set_cons_succ]
              rfl
            refine rg_take (i := 13) (N := some 77) (v := ?_) (a' := ?_) (bm 18 16383) rfl rfl (by kernel_rfl) (fun _ _ _ h => h) hHeld (Or.inl ⟨by rfl, ?_⟩) ?_ ?_
            rotate_left
            · intro w' hw'
              obtain ⟨ad2, A6, c6, hAd2, r0, r1, r2, r3, r4, r5, _, _⟩ := HAT.out w' hw'.bel
              obtain rfl := Option.some.inj hAd2
              go_simp
              with_reducible rfl
            rotate_left
            · simp only [Act.put, List.setIfInBounds_toArray, List.set_cons_zero, List.set_cons_succ]
              rfl
            refine rg_take (i := 14) (N := some 78) (v := ?_) (a' := ?_) (bm 18 32767) rfl rfl (by kernel_rfl) (fun _ _ _ h => h) hHeld (Or.inl ⟨by rfl, ?_⟩) ?_ ?_
            rotate_left
            · intro w' hw'
              obtain ⟨ad2, A6, c6, hAd2, r0, r1, r2, r3, r4, r5, _, _⟩ := HAT.out w' hw'.bel
              obtain rfl := Option.some.inj hAd2
              go_simp
              with_reducible rfl
            rotate_left
            · simp only [Act.put, List.setIfInBounds_toArray, List.set_cons_zero, List.set_cons_succ]
              rfl
            refine rg_ready [15] (by kernel_rfl) (by simp) ?_
            refine rg_one (i := 15) (N := some 79) (bm 18 65535) rfl rfl (by kernel_rfl) (fun K hK => ?_) rg_nil
            go_simp
            go_at_call 17
            with_reducible refine (ints_Fits.calls x.f3 x.f2 _ _ HFIT.out).mono ?_
            rintro e wx15r12 ⟨rfl, hd⟩
            have hnew := hHeld.below (drawn_below hd)
            clear hd
            obtain ⟨ad3, A8, c8, hAd3, r0, r1, r2, r3, r4, r5, _, _⟩ := HAT.out wx15r12 hnew.bel
            obtain rfl := Option.some.inj hAd3
            have HW3 := Aside0.mk hnew
            refine hK.out _ _ hnew ?_
            clear hK K
            refine rg_norm (a' := ?_) ?_ ?_
            rotate_left
            · simp only [Act.put, List.setIfInBounds_toArray, List.set_cons_zero, List.set_cons_succ]
              rfl
            clear hHeld
            have hHeld := hnew
            clear hnew
            refine rg_take (i := 16) (N := some 80) (v := ?_) (a' := ?_) (bm 18 131071) rfl rfl (by kernel_rfl) (fun _ _ _ h => h) hHeld (Or.inl ⟨by rfl, ?_⟩) ?_ ?_
            rotate_left
            · intro w' hw'
              obtain ⟨ad2, A6, c6, hAd2, r0, r1, r2, r3, r4, r5, _, _⟩ := HAT.out w' hw'.bel
              obtain rfl := Option.some.inj hAd2
              go_simp
              with_reducible rfl
            rotate_left
            · simp only [Act.put, List.setIfInBounds_toArray, List.set_cons_zero, List.set_cons_succ]
              rfl
            refine rg_take (i := 17) (N := some 81) (v := ?_) (a' := ?_) (bm 18 262143) rfl rfl (by kernel_rfl) (fun _ _ _ h => h) hHeld (Or.inl ⟨by rfl, ?_⟩) ?_ ?_
            rotate_left
            · intro w' hw'
              obtain ⟨ad2, A6, c6, hAd2, r0, r1, r2, r3, r4, r5, _, _⟩ := HAT.out w' hw'.bel
              obtain rfl := Option.some.inj hAd2
              go_simp
              with_reducible rfl
            rotate_left
            · simp only [Act.put, List.setIfInBounds_toArray, List.set_cons_zero, List.set_cons_succ]
              rfl
            refine rg_done (by kernel_rfl) ?_
            obtain ⟨v7, hv7⟩ : ∃ v, Value.slice A7 gl.length c7 = v := ⟨_, rfl⟩
            rw [hv7] at HW3 ⊢
            clear hv7
            go_wp2_with ((with_reducible refine gate_builtin (b := .append) (xs := #[.tmp 82, .tmp 88]) rfl ?_); refine SB.app1 (W := wx15r12) (d := Kd.int .u64) (cs := [.int .u64 x.f2]) (y := x.f2) HW3.out rfl (.tmp 82) (.tmp 88) 49 (.int .u64 0) 8 rfl Try.underlying49 (show (Try.prog.info? 35).map (fun i => (i.zero, i.size, i.bytes)) = some (some (.int .u64 0), 1, 8) from by kernel_rfl) rfl (by decide) (by decide) rfl (by first | (go_simp; done) | (go_simp; rfl)) rfl (by simp [HWL.out]; omega) ?_; intro v89 w1 hs1; have HS4 := Aside0.mk hs1; clear hs1)
            refine ⟨⟨i + 1, gl ++ [⟨x.f3, x.f4, x.f2⟩], rfl, by omega, by rw [List.length_append]; show gl.length + 1 ≤ 128; omega, ⟨by rw [List.map_append, HWS.out]; exact HS4.out⟩⟩, ?_⟩
            show l.length - (intOf (.int .i64 ((i : Int) + 1))).toNat < _
            simp [intOf]
            omega
        · have e5 : decide (x.f0 ≤ 3) = false := decide_eq_false cw
          rcases set_cases gl x.f1 x.f2 with ⟨hx0, hty, hse⟩ | ⟨hx0, hx1, hty, hse⟩ | ⟨t, y, htl, hxt, ⟨hty, hse⟩ | ⟨hty, hse, hfit⟩ | ⟨hty, hse, hfit⟩⟩
          · have g1 : decide (0 ≤ x.f1) = false := decide_eq_false (by omega)
            have HTY := Aside0.mk hty
            have HSE := Aside0.mk hse
            clear hty hse
            go_wp2_with (go_at_call 18; (with_reducible refine (globTypeH (p := p) HW.out (by omega) x.f1 (by have := HOX.out; unfold okA at this; exact this.1) HTY.out).mono ?_); rintro e w3 ⟨rfl, hs⟩; have HW1 := Aside0.mk hs; clear hs)
            refine rg_startL (n := 13) (S := fun w' => SB w w' [Row (Kd.int .u64) 35 (.slice A7 gl.length c7) ws]) (bm 13 0) (by kernel_rfl) rfl (by kernel_rfl) ((HW1.out.drew.pick [0])) (fun wd hwd hHeld => ?_)
            refine rg_take (i := 0) (N := some 101) (v := ?_) (a' := ?_) (bm 13 1) rfl rfl (by kernel_rfl) (fun _ _ _ h => h) hHeld (Or.inl ⟨by rfl, ?_⟩) ?_ ?_
            rotate_left
            · intro w' hw'
              obtain ⟨ad2, A6, c6, hAd2, r0, r1, r2, r3, r4, r5, _, _⟩ := HAT.out w' hw'.bel
              obtain rfl := Option.some.inj hAd2
              go_simp
              with_reducible rfl
            rotate_left
            · simp only [Act.put, List.setIfInBounds_toArray, List.set_cons_zero, List.set_cons_succ]
              rfl
            refine rg_take (i := 1) (N := some 102) (v := ?_) (a' := ?_) (bm 13 3) rfl rfl (by kernel_rfl) (fun _ _ _ h => h) hHeld (Or.inl ⟨by rfl, ?_⟩) ?_ ?_
            rotate_left
            · intro w' hw'
              obtain ⟨ad2, A6, c6, hAd2, r0, r1, r2, r3, r4, r5, _, _⟩ := HAT.out w' hw'.bel
              obtain rfl := Option.some.inj hAd2
              go_simp
              with_reducible rfl
            rotate_left
            · simp only [Act.put, List.setIfInBounds_toArray, List.set_cons_zero, List.set_cons_succ]
              rfl
            refine rg_take (i := 2) (N := some 103) (v := ?_) (a' := ?_) (bm 13 7) rfl rfl (by kernel_rfl) (fun _ _ _ h => h) hHeld (Or.inl ⟨by rfl, ?_⟩) ?_ ?_
            rotate_left
            · intro w' hw'
              obtain ⟨ad2, A6, c6, hAd2, r0, r1, r2, r3, r4, r5, _, _⟩ := HAT.out w' hw'.bel
              obtain rfl := Option.some.inj hAd2
              go_simp
              with_reducible rfl
            rotate_left
            · simp only [Act.put, List.setIfInBounds_toArray, List.set_cons_zero, List.set_cons_succ]
              rfl
            refine rg_take (i := 3) (N := some 104) (v := ?_) (a' := ?_) (bm 13 15) rfl rfl (by kernel_rfl) (fun _ _ _ h => h) hHeld (Or.inl ⟨by rfl, ?_⟩) ?_ ?_
            rotate_left
            · intro w' hw'
              obtain ⟨ad2, A6, c6, hAd2, r0, r1, r2, r3, r4, r5, _, _⟩ := HAT.out w' hw'.bel
              obtain rfl := Option.some.inj hAd2
              go_simp
              with_reducible rfl
            rotate_left
            · simp only [Act.put, List.setIfInBounds_toArray, List.set_cons_zero, List.set_cons_succ]
              rfl
            refine rg_take (i := 4) (N := some 105) (v := ?_) (a' := ?_) (bm 13 31) rfl rfl (by kernel_rfl) (fun _ _ _ h => h) hHeld (Or.inl ⟨by rfl, ?_⟩) ?_ ?_
            rotate_left
            · intro w' hw'
              obtain ⟨ad2, A6, c6, hAd2, r0, r1, r2, r3, r4, r5, _, _⟩ := HAT.out w' hw'.bel
              obtain rfl := Option.some.inj hAd2
              go_simp
              with_reducible rfl
            rotate_left
            · simp only [Act.put, List.setIfInBounds_toArray, List.set_cons_zero, List.set_cons_succ]
              rfl
            refine rg_take (i := 5) (N := some 106) (v := ?_) (a' := ?_) (bm 13 63) rfl rfl (by kernel_rfl) (fun _ _ _ h => h) hHeld (Or.inl ⟨by rfl, ?_⟩) ?_ ?_
            rotate_left
            · intro w' hw'
              obtain ⟨ad2, A6, c6, hAd2, r0, r1, r2, r3, r4, r5, _, _⟩ := HAT.out w' hw'.bel
              obtain rfl := Option.some.inj hAd2
              go_simp
              with_reducible rfl
            rotate_left
            · simp only [Act.put, List.setIfInBounds_toArray, List.set_cons_zero, List.set_cons_succ]
              rfl
            refine rg_take (i := 6) (N := some 107) (v := ?_) (a' := ?_) (bm 13 127) rfl rfl (by kernel_rfl) (fun _ _ _ h => h) hHeld (Or.inl ⟨by rfl, ?_⟩) ?_ ?_
            rotate_left
            · intro w' hw'
              obtain ⟨ad2, A6, c6, hAd2, r0, r1, r2, r3, r4, r5, _, _⟩ := HAT.out w' hw'.bel
              obtain rfl := Option.some.inj hAd2
              go_simp
              with_reducible rfl
            rotate_left
            · simp only [Act.put, List.setIfInBounds_toArray, List.set_cons_zero, List.set_cons_succ]
              rfl
            refine rg_take (i := 7) (N := some 108) (v := ?_) (a' := ?_) (bm 13 255) rfl rfl (by kernel_rfl) (fun _ _ _ h => h) hHeld (Or.inl ⟨by rfl, ?_⟩) ?_ ?_
            rotate_left
            · intro w' hw'
              obtain ⟨ad2, A6, c6, hAd2, r0, r1, r2, r3, r4, r5, _, _⟩ := HAT.out w' hw'.bel
              obtain rfl := Option.some.inj hAd2
              go_simp
              with_reducible rfl
            rotate_left
            · simp only [Act.put, List.setIfInBounds_toArray, List.set_cons_zero, List.set_cons_succ]
              rfl
            refine rg_take (i := 8) (N := some 109) (v := ?_) (a' := ?_) (bm 13 511) rfl rfl (by kernel_rfl) (fun _ _ _ h => h) hHeld (Or.inl ⟨by rfl, ?_⟩) ?_ ?_
            rotate_left
            · intro w' hw'
              obtain ⟨ad2, A6, c6, hAd2, r0, r1, r2, r3, r4, r5, _, _⟩ := HAT.out w' hw'.bel
              obtain rfl := Option.some.inj hAd2
              go_simp
              with_reducible rfl
            rotate_left
            · simp only [Act.put, List.setIfInBounds_toArray, List.set_cons_zero, List.set_cons_succ]
              rfl
            refine rg_take (i := 9) (N := some 110) (v := ?_) (a' := ?_) (bm 13 1023) rfl rfl (by kernel_rfl) (fun _ _ _ h => h) hHeld (Or.inl ⟨by rfl, ?_⟩) ?_ ?_
            rotate_left
            · intro w' hw'
              obtain ⟨ad2, A6, c6, hAd2, r0, r1, r2, r3, r4, r5, _, _⟩ := HAT.out w' hw'.bel
              obtain rfl := Option.some.inj hAd2
              go_simp
              with_reducible rfl
            rotate_left
            · simp only [Act.put, List.setIfInBounds_toArray, List.set_cons_zero, List.set_cons_succ]
              rfl
            refine rg_take (i := 10) (N := some 111) (v := ?_) (a' := ?_) (bm 13 2047) rfl rfl (by kernel_rfl) (fun _ _ _ h => h) hHeld (Or.inl ⟨by rfl, ?_⟩) ?_ ?_
            rotate_left
            · intro w' hw'
              obtain ⟨ad2, A6, c6, hAd2, r0, r1, r2, r3, r4, r5, _, _⟩ := HAT.out w' hw'.bel
              obtain rfl := Option.some.inj hAd2
              go_simp
              with_reducible rfl
            rotate_left
            · simp only [Act.put, List.setIfInBounds_toArray, List.set_cons_zero, List.set_cons_succ]
              rfl
            refine rg_ready [11] (by kernel_rfl) (by simp) ?_
            refine rg_one (i := 11) (N := some 112) (bm 13 4095) rfl rfl (by kernel_rfl) (fun K hK => ?_) rg_nil
            have HWd : Aside0 (SB w wd _) := ⟨hwd.out ▸ HW1.out.drew⟩
            go_simp
            go_at_call 19
            with_reducible refine (globSetH (p := p) HWd.out (by omega) x.f1 x.f2 (by have := HOX.out; unfold okA at this; exact this.1) (by have := HOX.out; unfold okA at this; exact this.2.1) HSE.out).mono ?_
            rintro e wx11r16 ⟨rfl, hs⟩
            have HW2 := Aside0.mk hs
            have hnew := hs.pick [0]
            clear hs
            obtain ⟨ad3, A8, c8, hAd3, r0, r1, r2, r3, r4, r5, _, _⟩ := HAT.out wx11r16 hnew.bel
            obtain rfl := Option.some.inj hAd3
            refine hK.out _ _ hnew ?_
            clear hK K
            refine rg_norm (a' := ?_) ?_ ?_
            rotate_left
            · simp only [Act.put, List.setIfInBounds_toArray, List.set_cons_zero, List.set_cons_succ]
              rfl
            clear hHeld
            have hHeld := hnew
            clear hnew
            refine rg_take (i := 12) (N := some 14) (v := ?_) (a' := ?_) (bm 13 8191) rfl rfl (by kernel_rfl) (fun _ _ _ h => h) hHeld (Or.inl ⟨by rfl, ?_⟩) ?_ ?_
            rotate_left
            · intro w' hw'
              obtain ⟨ad2, A6, c6, hAd2, r0, r1, r2, r3, r4, r5, _, _⟩ := HAT.out w' hw'.bel
              obtain rfl := Option.some.inj hAd2
              go_simp
              with_reducible rfl
            rotate_left
            · simp only [Act.put, List.setIfInBounds_toArray, List.set_cons_zero, List.set_cons_succ]
              rfl
            refine rg_done (by kernel_rfl) ?_
            go_wp2
            refine ⟨⟨i + 1, gl, rfl, by omega, hgl, ⟨by rw [HWS.out]; exact HW2.out⟩⟩, ?_⟩
            show l.length - (intOf (.int .i64 ((i : Int) + 1))).toNat < _
            simp [intOf]
            omega
          · have g1 : decide (0 ≤ x.f1) = true := decide_eq_true (by omega)
            have g2 : decide (x.f1 < (gl.length : Int)) = false := decide_eq_false (by omega)
            have HTY := Aside0.mk hty
            have HSE := Aside0.mk hse
            clear hty hse
            go_wp2_with (go_at_call 18; (with_reducible refine (globTypeH (p := p) HW.out (by omega) x.f1 (by have := HOX.out; unfold okA at this; exact this.1) HTY.out).mono ?_); rintro e w3 ⟨rfl, hs⟩; have HW1 := Aside0.mk hs; clear hs)
            refine rg_startL (n := 13) (S := fun w' => SB w w' [Row (Kd.int .u64) 35 (.slice A7 gl.length c7) ws]) (bm 13 0) (by kernel_rfl) rfl (by kernel_rfl) ((HW1.out.drew.pick [0])) (fun wd hwd hHeld => ?_)
            refine rg_take (i := 0) (N := some 101) (v := ?_) (a' := ?_) (bm 13 1) rfl rfl (by kernel_rfl) (fun _ _ _ h => h) hHeld (Or.inl ⟨by rfl, ?_⟩) ?_ ?_
            rotate_left
            · intro w' hw'
              obtain ⟨ad2, A6, c6, hAd2, r0, r1, r2, r3, r4, r5, _, _⟩ := HAT.out w' hw'.bel
              obtain rfl := Option.some.inj hAd2
              go_simp
              with_reducible rfl
            rotate_left
            · simp only [Act.put, List.setIfInBounds_toArray, List.set_cons_zero, List.set_cons_succ]
              rfl
            refine rg_take (i := 1) (N := some 102) (v := ?_) (a' := ?_) (bm 13 3) rfl rfl (by kernel_rfl) (fun _ _ _ h => h) hHeld (Or.inl ⟨by rfl, ?_⟩) ?_ ?_
            rotate_left
            · intro w' hw'
              obtain ⟨ad2, A6, c6, hAd2, r0, r1, r2, r3, r4, r5, _, _⟩ := HAT.out w' hw'.bel
              obtain rfl := Option.some.inj hAd2
              go_simp
              with_reducible rfl
            rotate_left
            · simp only [Act.put, List.setIfInBounds_toArray, List.set_cons_zero, List.set_cons_succ]
              rfl
            refine rg_take (i := 2) (N := some 103) (v := ?_) (a' := ?_) (bm 13 7) rfl rfl (by kernel_rfl) (fun _ _ _ h => h) hHeld (Or.inl ⟨by rfl, ?_⟩) ?_ ?_
            rotate_left
            · intro w' hw'
              obtain ⟨ad2, A6, c6, hAd2, r0, r1, r2, r3, r4, r5, _, _⟩ := HAT.out w' hw'.bel
              obtain rfl := Option.some.inj hAd2
              go_simp
              with_reducible rfl
            rotate_left
            · simp only [Act.put, List.setIfInBounds_toArray, List.set_cons_zero, List.set_cons_succ]
              rfl
            refine rg_take (i := 3) (N := some 104) (v := ?_) (a' := ?_) (bm 13 15) rfl rfl (by kernel_rfl) (fun _ _ _ h => h) hHeld (Or.inl ⟨by rfl, ?_⟩) ?_ ?_
            rotate_left
            · intro w' hw'
              obtain ⟨ad2, A6, c6, hAd2, r0, r1, r2, r3, r4, r5, _, _⟩ := HAT.out w' hw'.bel
              obtain rfl := Option.some.inj hAd2
              go_simp
              with_reducible rfl
            rotate_left
            · simp only [Act.put, List.setIfInBounds_toArray, List.set_cons_zero, List.set_cons_succ]
              rfl
            refine rg_take (i := 4) (N := some 105) (v := ?_) (a' := ?_) (bm 13 31) rfl rfl (by kernel_rfl) (fun _ _ _ h => h) hHeld (Or.inl ⟨by rfl, ?_⟩) ?_ ?_
            rotate_left
            · intro w' hw'
              obtain ⟨ad2, A6, c6, hAd2, r0, r1, r2, r3, r4, r5, _, _⟩ := HAT.out w' hw'.bel
              obtain rfl := Option.some.inj hAd2
              go_simp
              with_reducible rfl
            rotate_left
            · simp only [Act.put, List.setIfInBounds_toArray, List.set_cons_zero, List.set_cons_succ]
              rfl
            refine rg_take (i := 5) (N := some 106) (v := ?_) (a' := ?_) (bm 13 63) rfl rfl (by kernel_rfl) (fun _ _ _ h => h) hHeld (Or.inl ⟨by rfl, ?_⟩) ?_ ?_
            rotate_left
            · intro w' hw'
              obtain ⟨ad2, A6, c6, hAd2, r0, r1, r2, r3, r4, r5, _, _⟩ := HAT.out w' hw'.bel
              obtain rfl := Option.some.inj hAd2
              go_simp
              with_reducible rfl
            rotate_left
            · simp only [Act.put, List.setIfInBounds_toArray, List.set_cons_zero, List.set_cons_succ]
              rfl
            refine rg_take (i := 6) (N := some 107) (v := ?_) (a' := ?_) (bm 13 127) rfl rfl (by kernel_rfl) (fun _ _ _ h => h) hHeld (Or.inl ⟨by rfl, ?_⟩) ?_ ?_
            rotate_left
            · intro w' hw'
              obtain ⟨ad2, A6, c6, hAd2, r0, r1, r2, r3, r4, r5, _, _⟩ := HAT.out w' hw'.bel
              obtain rfl := Option.some.inj hAd2
              go_simp
              with_reducible rfl
            rotate_left
            · simp only [Act.put, List.setIfInBounds_toArray, List.set_cons_zero, List.set_cons_succ]
              rfl
            refine rg_take (i := 7) (N := some 108) (v := ?_) (a' := ?_) (bm 13 255) rfl rfl (by kernel_rfl) (fun _ _ _ h => h) hHeld (Or.inl ⟨by rfl, ?_⟩) ?_ ?_
            rotate_left
            · intro w' hw'
              obtain ⟨ad2, A6, c6, hAd2, r0, r1, r2, r3, r4, r5, _, _⟩ := HAT.out w' hw'.bel
              obtain rfl := Option.some.inj hAd2
              go_simp
              with_reducible rfl
            rotate_left
            · simp only [Act.put, List.setIfInBounds_toArray, List.set_cons_zero, List.set_cons_succ]
              rfl
            refine rg_take (i := 8) (N := some 109) (v := ?_) (a' := ?_) (bm 13 511) rfl rfl (by kernel_rfl) (fun _ _ _ h => h) hHeld (Or.inl ⟨by rfl, ?_⟩) ?_ ?_
            rotate_left
            · intro w' hw'
              obtain ⟨ad2, A6, c6, hAd2, r0, r1, r2, r3, r4, r5, _, _⟩ := HAT.out w' hw'.bel
              obtain rfl := Option.some.inj hAd2
              go_simp
              with_reducible rfl
            rotate_left
            · simp only [Act.put, List.setIfInBounds_toArray, List.set_cons_zero, List.set_cons_succ]
              rfl
            refine rg_take (i := 9) (N := some 110) (v := ?_) (a' := ?_) (bm 13 1023) rfl rfl (by kernel_rfl) (fun _ _ _ h => h) hHeld (Or.inl ⟨by rfl, ?_⟩) ?_ ?_
            rotate_left
            · intro w' hw'
              obtain ⟨ad2, A6, c6, hAd2, r0, r1, r2, r3, r4, r5, _, _⟩ := HAT.out w' hw'.bel
              obtain rfl := Option.some.inj hAd2
              go_simp
              with_reducible rfl
            rotate_left
            · simp only [Act.put, List.setIfInBounds_toArray, List.set_cons_zero, List.set_cons_succ]
              rfl
            refine rg_take (i := 10) (N := some 111) (v := ?_) (a' := ?_) (bm 13 2047) rfl rfl (by kernel_rfl) (fun _ _ _ h => h) hHeld (Or.inl ⟨by rfl, ?_⟩) ?_ ?_
            rotate_left
            · intro w' hw'
              obtain ⟨ad2, A6, c6, hAd2, r0, r1, r2, r3, r4, r5, _, _⟩ := HAT.out w' hw'.bel
              obtain rfl := Option.some.inj hAd2
              go_simp
              with_reducible rfl
            rotate_left
            · simp only [Act.put, List.setIfInBounds_toArray, List.set_cons_zero, List.set_cons_succ]
              rfl
            refine rg_ready [11] (by kernel_rfl) (by simp) ?_
            refine rg_one (i := 11) (N := some 112) (bm 13 4095) rfl rfl (by kernel_rfl) (fun K hK => ?_) rg_nil
            have HWd : Aside0 (SB w wd _) := ⟨hwd.out ▸ HW1.out.drew⟩
            go_simp
            go_at_call 19
            with_reducible refine (globSetH (p := p) HWd.out (by omega) x.f1 x.f2 (by have := HOX.out; unfold okA at this; exact this.1) (by have := HOX.out; unfold okA at this; exact this.2.1) HSE.out).mono ?_
            rintro e wx11r16 ⟨rfl, hs⟩
            have HW2 := Aside0.mk hs
            have hnew := hs.pick [0]
            clear hs
            obtain ⟨ad3, A8, c8, hAd3, r0, r1, r2, r3, r4, r5, _, _⟩ := HAT.out wx11r16 hnew.bel
            obtain rfl := Option.some.inj hAd3
            refine hK.out _ _ hnew ?_
            clear hK K
            refine rg_norm (a' := ?_) ?_ ?_
            rotate_left
            · simp only [Act.put, List.setIfInBounds_toArray, List.set_cons_zero, List.set_cons_succ]
              rfl
            clear hHeld
            have hHeld := hnew
            clear hnew
            refine rg_take (i := 12) (N := some 14) (v := ?_) (a' := ?_) (bm 13 8191) rfl rfl (by kernel_rfl) (fun _ _ _ h => h) hHeld (Or.inl ⟨by rfl, ?_⟩) ?_ ?_
            rotate_left
            · intro w' hw'
              obtain ⟨ad2, A6, c6, hAd2, r0, r1, r2, r3, r4, r5, _, _⟩ := HAT.out w' hw'.bel
              obtain rfl := Option.some.inj hAd2
              go_simp
              with_reducible rfl
            rotate_left
            · simp only [Act.put, List.setIfInBounds_toArray, List.set_cons_zero, List.set_cons_succ]
              rfl
            refine rg_done (by kernel_rfl) ?_
            go_wp2
            refine ⟨⟨i + 1, gl, rfl, by omega, hgl, ⟨by rw [HWS.out]; exact HW2.out⟩⟩, ?_⟩
            show l.length - (intOf (.int .i64 ((i : Int) + 1))).toNat < _
            simp [intOf]
            omega
          · have HXT := Aside0.mk hxt
            rw [hxt] at q1 HAT
            clear hxt
            have g1 : decide (0 ≤ (t : Int)) = true := decide_eq_true (by omega)
            have g2 : decide ((t : Int) < (gl.length : Int)) = true := decide_eq_true (by omega)
            have g3 : decide (t < gl.length) = true := decide_eq_true (by omega)
            have HTY := Aside0.mk hty
            have HSE := Aside0.mk hse
            clear hty hse
            go_wp2_with (go_at_call 18; (with_reducible refine (globTypeH (p := p) HW.out (by omega) (t : Int) (by have := HOX.out; unfold okA at this; have := this.1; rw [HXT.out] at this; exact this) HTY.out).mono ?_); rintro e w3 ⟨rfl, hs⟩; have HW1 := Aside0.mk hs; clear hs)
            refine rg_startL (n := 13) (S := fun w' => SB w w' [Row (Kd.int .u64) 35 (.slice A7 gl.length c7) ws]) (bm 13 0) (by kernel_rfl) rfl (by kernel_rfl) ((HW1.out.drew.pick [0])) (fun wd hwd hHeld => ?_)
            refine rg_take (i := 0) (N := some 101) (v := ?_) (a' := ?_) (bm 13 1) rfl rfl (by kernel_rfl) (fun _ _ _ h => h) hHeld (Or.inl ⟨by rfl, ?_⟩) ?_ ?_
            rotate_left
            · intro w' hw'
              obtain ⟨ad2, A6, c6, hAd2, r0, r1, r2, r3, r4, r5, _, _⟩ := HAT.out w' hw'.bel
              obtain rfl := Option.some.inj hAd2
              go_simp
              with_reducible rfl
            rotate_left
            · simp only [Act.put, List.setIfInBounds_toArray, List.set_cons_zero, List.set_cons_succ]
              rfl
            refine rg_take (i := 1) (N := some 102) (v := ?_) (a' := ?_) (bm 13 3) rfl rfl (by kernel_rfl) (fun _ _ _ h => h) hHeld (Or.inl ⟨by rfl, ?_⟩) ?_ ?_
            rotate_left
            · intro w' hw'
              obtain ⟨ad2, A6, c6, hAd2, r0, r1, r2, r3, r4, r5, _, _⟩ := HAT.out w' hw'.bel
              obtain rfl := Option.some.inj hAd2
              go_simp
              with_reducible rfl
            rotate_left
            · simp only [Act.put, List.setIfInBounds_toArray, List.set_cons_zero, List.set_cons_succ]
              rfl
            refine rg_take (i := 2) (N := some 103) (v := ?_) (a' := ?_) (bm 13 7) rfl rfl (by kernel_rfl) (fun _ _ _ h => h) hHeld (Or.inl ⟨by rfl, ?_⟩) ?_ ?_
            rotate_left
            · intro w' hw'
              obtain ⟨ad2, A6, c6, hAd2, r0, r1, r2, r3, r4, r5, _, _⟩ := HAT.out w' hw'.bel
              obtain rfl := Option.some.inj hAd2
              go_simp
              with_reducible rfl
            rotate_left
            · simp only [Act.put, List.setIfInBounds_toArray, List.set_cons_zero, List.set_cons_succ]
              rfl
            refine rg_take (i := 3) (N := some 104) (v := ?_) (a' := ?_) (bm 13 15) rfl rfl (by kernel_rfl) (fun _ _ _ h => h) hHeld (Or.inl ⟨by rfl, ?_⟩) ?_ ?_
            rotate_left
            · intro w' hw'
              obtain ⟨ad2, A6, c6, hAd2, r0, r1, r2, r3, r4, r5, _, _⟩ := HAT.out w' hw'.bel
              obtain rfl := Option.some.inj hAd2
              go_simp
              with_reducible rfl
            rotate_left
            · simp only [Act.put, List.setIfInBounds_toArray, List.set_cons_zero, List.set_cons_succ]
              rfl
            refine rg_take (i := 4) (N := some 105) (v := ?_) (a' := ?_) (bm 13 31) rfl rfl (by kernel_rfl) (fun _ _ _ h => h) hHeld (Or.inl ⟨by rfl, ?_⟩) ?_ ?_
            rotate_left
            · intro w' hw'
              obtain ⟨ad2, A6, c6, hAd2, r0, r1, r2, r3, r4, r5, _, _⟩ := HAT.out w' hw'.bel
              obtain rfl := Option.some.inj hAd2
              go_simp
              with_reducible rfl
            rotate_left
            · simp only [Act.put, List.setIfInBounds_toArray, List.set_cons_zero, List.set_cons_succ]
              rfl
            refine rg_take (i := 5) (N := some 106) (v := ?_) (a' := ?_) (bm 13 63) rfl rfl (by kernel_rfl) (fun _ _ _ h => h) hHeld (Or.inl ⟨by rfl, ?_⟩) ?_ ?_
            rotate_left
            · intro w' hw'
              obtain ⟨ad2, A6, c6, hAd2, r0, r1, r2, r3, r4, r5, _, _⟩ := HAT.out w' hw'.bel
              obtain rfl := Option.some.inj hAd2
              go_simp
              with_reducible rfl
            rotate_left
            · simp only [Act.put, List.setIfInBounds_toArray, List.set_cons_zero, List.set_cons_succ]
              rfl
            refine rg_take (i := 6) (N := some 107) (v := ?_) (a' := ?_) (bm 13 127) rfl rfl (by kernel_rfl) (fun _ _ _ h => h) hHeld (Or.inl ⟨by rfl, ?_⟩) ?_ ?_
            rotate_left
            · intro w' hw'
              obtain ⟨ad2, A6, c6, hAd2, r0, r1, r2, r3, r4, r5, _, _⟩ := HAT.out w' hw'.bel
              obtain rfl := Option.some.inj hAd2
              go_simp
              with_reducible rfl
            rotate_left
            · simp only [Act.put, List.setIfInBounds_toArray, List.set_cons_zero, List.set_cons_succ]
              rfl
            refine rg_take (i := 7) (N := some 108) (v := ?_) (a' := ?_) (bm 13 255) rfl rfl (by kernel_rfl) (fun _ _ _ h => h) hHeld (Or.inl ⟨by rfl, ?_⟩) ?_ ?_
            rotate_left
            · intro w' hw'
              obtain ⟨ad2, A6, c6, hAd2, r0, r1, r2, r3, r4, r5, _, _⟩ := HAT.out w' hw'.bel
              obtain rfl := Option.some.inj hAd2
              go_simp
              with_reducible rfl
            rotate_left
            · simp only [Act.put, List.setIfInBounds_toArray, List.set_cons_zero, List.set_cons_succ]
              rfl
            refine rg_take (i := 8) (N := some 109) (v := ?_) (a' := ?_) (bm 13 511) rfl rfl (by kernel_rfl) (fun _ _ _ h => h) hHeld (Or.inl ⟨by rfl, ?_⟩) ?_ ?_
            rotate_left
            · intro w' hw'
              obtain ⟨ad2, A6, c6, hAd2, r0, r1, r2, r3, r4, r5, _, _⟩ := HAT.out w' hw'.bel
              obtain rfl := Option.some.inj hAd2
              go_simp
              with_reducible rfl
            rotate_left
            · simp only [Act.put, List.setIfInBounds_toArray, List.set_cons_zero, List.set_cons_succ]
              rfl
            refine rg_take (i := 9) (N := some 110) (v := ?_) (a' := ?_) (bm 13 1023) rfl rfl (by kernel_rfl) (fun _ _ _ h => h) hHeld (Or.inl ⟨by rfl, ?_⟩) ?_ ?_
            rotate_left
            · intro w' hw'
              obtain ⟨ad2, A6, c6, hAd2, r0, r1, r2, r3, r4, r5, _, _⟩ := HAT.out w' hw'.bel
              obtain rfl := Option.some.inj hAd2
              go_simp
              with_reducible rfl
            rotate_left
            · simp only [Act.put, List.setIfInBounds_toArray, List.set_cons_zero, List.set_cons_succ]
              rfl
            refine rg_take (i := 10) (N := some 111) (v := ?_) (a' := ?_) (bm 13 2047) rfl rfl (by kernel_rfl) (fun _ _ _ h => h) hHeld (Or.inl ⟨by rfl, ?_⟩) ?_ ?_
            rotate_left
            · intro w' hw'
              obtain ⟨ad2, A6, c6, hAd2, r0, r1, r2, r3, r4, r5, _, _⟩ := HAT.out w' hw'.bel
              obtain rfl := Option.some.inj hAd2
              go_simp
              with_reducible rfl
            rotate_left
            · simp only [Act.put, List.setIfInBounds_toArray, List.set_cons_zero, List.set_cons_succ]
              rfl
            refine rg_ready [11] (by kernel_rfl) (by simp) ?_
            refine rg_one (i := 11) (N := some 112) (bm 13 4095) rfl rfl (by kernel_rfl) (fun K hK => ?_) rg_nil
            have HWd : Aside0 (SB w wd _) := ⟨hwd.out ▸ HW1.out.drew⟩
            go_simp
            go_at_call 19
            with_reducible refine (globSetH (p := p) HWd.out (by omega) (t : Int) x.f2 (by have := HOX.out; unfold okA at this; have := this.1; rw [HXT.out] at this; exact this) (by have := HOX.out; unfold okA at this; exact this.2.1) HSE.out).mono ?_
            rintro e wx11r16 ⟨rfl, hs⟩
            have HW2 := Aside0.mk hs
            have hnew := hs.pick [0]
            clear hs
            obtain ⟨ad3, A8, c8, hAd3, r0, r1, r2, r3, r4, r5, _, _⟩ := HAT.out wx11r16 hnew.bel
            obtain rfl := Option.some.inj hAd3
            refine hK.out _ _ hnew ?_
            clear hK K
            refine rg_norm (a' := ?_) ?_ ?_
            rotate_left
            · simp only [Act.put, List.setIfInBounds_toArray, List.set_cons_zero, List.set_cons_succ]
              rfl
            clear hHeld
            have hHeld := hnew
            clear hnew
            refine rg_take (i := 12) (N := some 14) (v := ?_) (a' := ?_) (bm 13 8191) rfl rfl (by kernel_rfl) (fun _ _ _ h => h) hHeld (Or.inl ⟨by rfl, ?_⟩) ?_ ?_
            rotate_left
            · intro w' hw'
              obtain ⟨ad2, A6, c6, hAd2, r0, r1, r2, r3, r4, r5, _, _⟩ := HAT.out w' hw'.bel
              obtain rfl := Option.some.inj hAd2
              go_simp
              with_reducible rfl
            rotate_left
            · simp only [Act.put, List.setIfInBounds_toArray, List.set_cons_zero, List.set_cons_succ]
              rfl
            refine rg_done (by kernel_rfl) ?_
            go_wp2
            refine ⟨⟨i + 1, gl, rfl, by omega, hgl, ⟨by rw [HWS.out]; exact HW2.out⟩⟩, ?_⟩
            show l.length - (intOf (.int .i64 ((i : Int) + 1))).toNat < _
            simp [intOf]
            omega
          · have HXT := Aside0.mk hxt
            rw [hxt] at q1 HAT
            clear hxt
            have g1 : decide (0 ≤ (t : Int)) = true := decide_eq_true (by omega)
            have g2 : decide ((t : Int) < (gl.length : Int)) = true := decide_eq_true (by omega)
            have g3 : decide (t < gl.length) = true := decide_eq_true (by omega)
            have HFIT := Aside0.mk (fitsF y.f0 x.f2 (by have := HOX.out; unfold okA at this; exact this.2.1))
            rw [hfit] at HFIT
            clear hfit
            have HTY := Aside0.mk hty
            have HSE := Aside0.mk hse
            clear hty hse
            go_wp2_with (go_at_call 18; (with_reducible refine (globTypeH (p := p) HW.out (by omega) (t : Int) (by have := HOX.out; unfold okA at this; have := this.1; rw [HXT.out] at this; exact this) HTY.out).mono ?_); rintro e w3 ⟨rfl, hs⟩; have HW1 := Aside0.mk hs; clear hs)
            refine rg_startL (n := 13) (S := fun w' => SB w w' [Row (Kd.int .u64) 35 (.slice A7 gl.length c7) ws]) (bm 13 0) (by kernel_rfl) rfl (by kernel_rfl) ((HW1.out.drew.pick [0])) (fun wd hwd hHeld => ?_)
            refine rg_take (i := 0) (N := some 101) (v := ?_) (a' := ?_) (bm 13 1) rfl rfl (by kernel_rfl) (fun _ _ _ h => h) hHeld (Or.inl ⟨by rfl, ?_⟩) ?_ ?_
            rotate_left
            · intro w' hw'
              obtain ⟨ad2, A6, c6, hAd2, r0, r1, r2, r3, r4, r5, _, _⟩ := HAT.out w' hw'.bel
              obtain rfl := Option.some.inj hAd2
              go_simp
              with_reducible rfl
            rotate_left
            · simp only [Act.put, List.setIfInBounds_toArray, List.set_cons_zero, List.set_cons_succ]
              rfl
            refine rg_take (i := 1) (N := some 102) (v := ?_) (a' := ?_) (bm 13 3) rfl rfl (by kernel_rfl) (fun _ _ _ h => h) hHeld (Or.inl ⟨by rfl, ?_⟩) ?_ ?_
            rotate_left
            · intro w' hw'
              obtain ⟨ad2, A6, c6, hAd2, r0, r1, r2, r3, r4, r5, _, _⟩ := HAT.out w' hw'.bel
              obtain rfl := Option.some.inj hAd2
              go_simp
              with_reducible rfl
            rotate_left
            · simp only [Act.put, List.setIfInBounds_toArray, List.set_cons_zero, List.set_cons_succ]
              rfl
            refine rg_take (i := 2) (N := some 103) (v := ?_) (a' := ?_) (bm 13 7) rfl rfl (by kernel_rfl) (fun _ _ _ h => h) hHeld (Or.inl ⟨by rfl, ?_⟩) ?_ ?_
            rotate_left
            · intro w' hw'
              obtain ⟨ad2, A6, c6, hAd2, r0, r1, r2, r3, r4, r5, _, _⟩ := HAT.out w' hw'.bel
              obtain rfl := Option.some.inj hAd2
              go_simp
              with_reducible rfl
            rotate_left
            · simp only [Act.put, List.setIfInBounds_toArray, List.set_cons_zero, List.set_cons_succ]
              rfl
            refine rg_take (i := 3) (N := some 104) (v := ?_) (a' := ?_) (bm 13 15) rfl rfl (by kernel_rfl) (fun _ _ _ h => h) hHeld (Or.inl ⟨by rfl, ?_⟩) ?_ ?_
            rotate_left
            · intro w' hw'
              obtain ⟨ad2, A6, c6, hAd2, r0, r1, r2, r3, r4, r5, _, _⟩ := HAT.out w' hw'.bel
              obtain rfl := Option.some.inj hAd2
              go_simp
              with_reducible rfl
            rotate_left
            · simp only [Act.put, List.setIfInBounds_toArray, List.set_cons_zero, List.set_cons_succ]
              rfl
            refine rg_take (i := 4) (N := some 105) (v := ?_) (a' := ?_) (bm 13 31) rfl rfl (by kernel_rfl) (fun _ _ _ h => h) hHeld (Or.inl ⟨by rfl, ?_⟩) ?_ ?_
            rotate_left
            · intro w' hw'
              obtain ⟨ad2, A6, c6, hAd2, r0, r1, r2, r3, r4, r5, _, _⟩ := HAT.out w' hw'.bel
              obtain rfl := Option.some.inj hAd2
              go_simp
              with_reducible rfl
            rotate_left
            · simp only [Act.put, List.setIfInBounds_toArray, List.set_cons_zero, List.set_cons_succ]
              rfl
            refine rg_take (i := 5) (N := some 106) (v := ?_) (a' := ?_) (bm 13 63) rfl rfl (by kernel_rfl) (fun _ _ _ h => h) hHeld (Or.inl ⟨by rfl, ?_⟩) ?_ ?_
            rotate_left
            · intro w' hw'
              obtain ⟨ad2, A6, c6, hAd2, r0, r1, r2, r3, r4, r5, _, _⟩ := HAT.out w' hw'.bel
              obtain rfl := Option.some.inj hAd2
              go_simp
              with_reducible rfl
            rotate_left
            · simp only [Act.put, List.setIfInBounds_toArray, List.set_cons_zero, List.set_cons_succ]
              rfl
            refine rg_take (i := 6) (N := some 107) (v := ?_) (a' := ?_) (bm 13 127) rfl rfl (by kernel_rfl) (fun _ _ _ h => h) hHeld (Or.inl ⟨by rfl, ?_⟩) ?_ ?_
            rotate_left
            · intro w' hw'
              obtain ⟨ad2, A6, c6, hAd2, r0, r1, r2, r3, r4, r5, _, _⟩ := HAT.out w' hw'.bel
              obtain rfl := Option.some.inj hAd2
              go_simp
              with_reducible rfl
            rotate_left
            · simp only [Act.put, List.setIfInBounds_toArray, List.set_cons_zero, List.set_cons_succ]
              rfl
            refine rg_take (i := 7) (N := some 108) (v := ?_) (a' := ?_) (bm 13 255) rfl rfl (by kernel_rfl) (fun _ _ _ h => h) hHeld (Or.inl ⟨by rfl, ?_⟩) ?_ ?_
            rotate_left
            · intro w' hw'
              obtain ⟨ad2, A6, c6, hAd2, r0, r1, r2, r3, r4, r5, _, _⟩ := HAT.out w' hw'.bel
              obtain rfl := Option.some.inj hAd2
              go_simp
              with_reducible rfl
            rotate_left
            · simp only [Act.put, List.setIfInBounds_toArray, List.set_cons_zero, List.set_cons_succ]
              rfl
            refine rg_take (i := 8) (N := some 109) (v := ?_) (a' := ?_) (bm 13 511) rfl rfl (by kernel_rfl) (fun _ _ _ h => h) hHeld (Or.inl ⟨by rfl, ?_⟩) ?_ ?_
            rotate_left
            · intro w' hw'
              obtain ⟨ad2, A6, c6, hAd2, r0, r1, r2, r3, r4, r5, _, _⟩ := HAT.out w' hw'.bel
              obtain rfl := Option.some.inj hAd2
              go_simp
              with_reducible rfl
            rotate_left
            · simp only [Act.put, List.setIfInBounds_toArray, List.set_cons_zero, List.set_cons_succ]
              rfl
            refine rg_take (i := 9) (N := some 110) (v := ?_) (a' := ?_) (bm 13 1023) rfl rfl (by kernel_rfl) (fun _ _ _ h => h) hHeld (Or.inl ⟨by rfl, ?_⟩) ?_ ?_
            rotate_left
            · intro w' hw'
              obtain ⟨ad2, A6, c6, hAd2, r0, r1, r2, r3, r4, r5, _, _⟩ := HAT.out w' hw'.bel
              obtain rfl := Option.some.inj hAd2
              go_simp
              with_reducible rfl
            rotate_left
            · simp only [Act.put, List.setIfInBounds_toArray, List.set_cons_zero, List.set_cons_succ]
              rfl
            refine rg_take (i := 10) (N := some 111) (v := ?_) (a' := ?_) (bm 13 2047) rfl rfl (by kernel_rfl) (fun _ _ _ h => h) hHeld (Or.inl ⟨by rfl, ?_⟩) ?_ ?_
            rotate_left
            · intro w' hw'
              obtain ⟨ad2, A6, c6, hAd2, r0, r1, r2, r3, r4, r5, _, _⟩ := HAT.out w' hw'.bel
              obtain rfl := Option.some.inj hAd2
              go_simp
              with_reducible rfl
            rotate_left
            · simp only [Act.put, List.setIfInBounds_toArray, List.set_cons_zero, List.set_cons_succ]
              rfl
            refine rg_ready [11] (by kernel_rfl) (by simp) ?_
            refine rg_one (i := 11) (N := some 112) (bm 13 4095) rfl rfl (by kernel_rfl) (fun K hK => ?_) rg_nil
            have HWd : Aside0 (SB w wd _) := ⟨hwd.out ▸ HW1.out.drew⟩
            go_simp
            go_at_call 19
            with_reducible refine (globSetH (p := p) HWd.out (by omega) (t : Int) x.f2 (by have := HOX.out; unfold okA at this; have := this.1; rw [HXT.out] at this; exact this) (by have := HOX.out; unfold okA at this; exact this.2.1) HSE.out).mono ?_
            rintro e wx11r16 ⟨rfl, hs⟩
            have HW2 := Aside0.mk hs
            have hnew := hs.pick [0]
            clear hs
            obtain ⟨ad3, A8, c8, hAd3, r0, r1, r2, r3, r4, r5, _, _⟩ := HAT.out wx11r16 hnew.bel
            obtain rfl := Option.some.inj hAd3
            refine hK.out _ _ hnew ?_
            clear hK K
            refine rg_norm (a' := ?_) ?_ ?_
            rotate_left
            · simp only [Act.put, List.setIfInBounds_toArray, List.set_cons_zero, List.set_cons_succ]
              rfl
            clear hHeld
            have hHeld := hnew
            clear hnew
            refine rg_take (i := 12) (N := some 14) (v := ?_) (a' := ?_) (bm 13 8191) rfl rfl (by kernel_rfl) (fun _ _ _ h => h) hHeld (Or.inl ⟨by rfl, ?_⟩) ?_ ?_
            rotate_left
            · intro w' hw'
              obtain ⟨ad2, A6, c6, hAd2, r0, r1, r2, r3, r4, r5, _, _⟩ := HAT.out w' hw'.bel
              obtain rfl := Option.some.inj hAd2
              go_simp
              with_reducible rfl
            rotate_left
            · simp only [Act.put, List.setIfInBounds_toArray, List.set_cons_zero, List.set_cons_succ]
              rfl
            refine rg_done (by kernel_rfl) ?_
            go_wp2_with (go_at_call 17; (with_reducible refine (ints_Fits.calls y.f0 x.f2 _ _ HFIT.out).mono ?_); rintro e w5 ⟨rfl, hd⟩; have HW3 := Aside0.mk (HW2.out.below (drawn_below hd)); clear hd; obtain ⟨ad4, A9, c9, hAd4, s0, s1, s2, s3, s4, s5, _, _⟩ := HAT.out w5 HW3.out.bel; obtain rfl := Option.some.inj hAd4)
            refine ⟨⟨i + 1, gl, rfl, by omega, hgl, ⟨by rw [HWS.out]; exact HW3.out⟩⟩, ?_⟩
            show l.length - (intOf (.int .i64 ((i : Int) + 1))).toNat < _
            simp [intOf]
            omega
          · have HXT := Aside0.mk hxt
            rw [hxt] at q1 HAT
            clear hxt
            have g1 : decide (0 ≤ (t : Int)) = true := decide_eq_true (by omega)
            have g2 : decide ((t : Int) < (gl.length : Int)) = true := decide_eq_true (by omega)
            have g3 : decide (t < gl.length) = true := decide_eq_true (by omega)
            have HFIT := Aside0.mk (fitsF y.f0 x.f2 (by have := HOX.out; unfold okA at this; exact this.2.1))
            rw [hfit] at HFIT
            clear hfit
            obtain ⟨F0, hF0, _⟩ := HW.out.head
            obtain ⟨g, cap, hvv, _, _, _, _⟩ := Kd.R_form hF0.1 (by rw [HWL.out]; omega)
            injection hvv with hA hn hcap
            subst hA hcap
            clear hn hF0
            have HTY := Aside0.mk hty
            have HSE := Aside0.mk hse
            clear hty hse
            go_wp2_with (go_at_call 18; (with_reducible refine (globTypeH (p := p) HW.out (by omega) (t : Int) (by have := HOX.out; unfold okA at this; have := this.1; rw [HXT.out] at this; exact this) HTY.out).mono ?_); rintro e w3 ⟨rfl, hs⟩; have HW1 := Aside0.mk hs; clear hs)
            refine rg_startL (n := 13) (S := fun w' => SB w w' [Row (Kd.int .u64) 35 (.slice (some ⟨g, 0, none⟩) gl.length c7) ws]) (bm 13 0) (by kernel_rfl) rfl (by kernel_rfl) ((HW1.out.drew.pick [0])) (fun wd hwd hHeld => ?_)
            refine rg_take (i := 0) (N := some 101) (v := ?_) (a' := ?_) (bm 13 1) rfl rfl (by kernel_rfl) (fun _ _ _ h => h) hHeld (Or.inl ⟨by rfl, ?_⟩) ?_ ?_
            rotate_left
            · intro w' hw'
              obtain ⟨ad2, A6, c6, hAd2, r0, r1, r2, r3, r4, r5, _, _⟩ := HAT.out w' hw'.bel
              obtain rfl := Option.some.inj hAd2
              go_simp
              with_reducible rfl
            rotate_left
            · simp only [Act.put, List.setIfInBounds_toArray, List.set_cons_zero, List.set_cons_succ]
              rfl
            refine rg_take (i := 1) (N := some 102) (v := ?_) (a' := ?_) (bm 13 3) rfl rfl (by kernel_rfl) (fun _ _ _ h => h) hHeld (Or.inl ⟨by rfl, ?_⟩) ?_ ?_
            rotate_left
            · intro w' hw'
              obtain ⟨ad2, A6, c6, hAd2, r0, r1, r2, r3, r4, r5, _, _⟩ := HAT.out w' hw'.bel
              obtain rfl := Option.some.inj hAd2
              go_simp
              with_reducible rfl
            rotate_left
            · simp only [Act.put, List.setIfInBounds_toArray, List.set_cons_zero, List.set_cons_succ]
              rfl
            refine rg_take (i := 2) (N := some 103) (v := ?_) (a' := ?_) (bm 13 7) rfl rfl (by kernel_rfl) (fun _ _ _ h => h) hHeld (Or.inl ⟨by rfl, ?_⟩) ?_ ?_
            rotate_left
            · intro w' hw'
              obtain ⟨ad2, A6, c6, hAd2, r0, r1, r2, r3, r4, r5, _, _⟩ := HAT.out w' hw'.bel
              obtain rfl := Option.some.inj hAd2
              go_simp
              with_reducible rfl
            rotate_left
            · simp only [Act.put, List.setIfInBounds_toArray, List.set_cons_zero, List.set_cons_succ]
              rfl
            refine rg_take (i := 3) (N := some 104) (v := ?_) (a' := ?_) (bm 13 15) rfl rfl (by kernel_rfl) (fun _ _ _ h => h) hHeld (Or.inl ⟨by rfl, ?_⟩) ?_ ?_
            rotate_left
            · intro w' hw'
              obtain ⟨ad2, A6, c6, hAd2, r0, r1, r2, r3, r4, r5, _, _⟩ := HAT.out w' hw'.bel
              obtain rfl := Option.some.inj hAd2
              go_simp
              with_reducible rfl
            rotate_left
            · simp only [Act.put, List.setIfInBounds_toArray, List.set_cons_zero, List.set_cons_succ]
              rfl
            refine rg_take (i := 4) (N := some 105) (v := ?_) (a' := ?_) (bm 13 31) rfl rfl (by kernel_rfl) (fun _ _ _ h => h) hHeld (Or.inl ⟨by rfl, ?_⟩) ?_ ?_
            rotate_left
            · intro w' hw'
              obtain ⟨ad2, A6, c6, hAd2, r0, r1, r2, r3, r4, r5, _, _⟩ := HAT.out w' hw'.bel
              obtain rfl := Option.some.inj hAd2
              go_simp
              with_reducible rfl
            rotate_left
            · simp only [Act.put, List.setIfInBounds_toArray, List.set_cons_zero, List.set_cons_succ]
              rfl
            refine rg_take (i := 5) (N := some 106) (v := ?_) (a' := ?_) (bm 13 63) rfl rfl (by kernel_rfl) (fun _ _ _ h => h) hHeld (Or.inl ⟨by rfl, ?_⟩) ?_ ?_
            rotate_left
            · intro w' hw'
              obtain ⟨ad2, A6, c6, hAd2, r0, r1, r2, r3, r4, r5, _, _⟩ := HAT.out w' hw'.bel
              obtain rfl := Option.some.inj hAd2
              go_simp
              with_reducible rfl
            rotate_left
            · simp only [Act.put, List.setIfInBounds_toArray, List.set_cons_zero, List.set_cons_succ]
              rfl
            refine rg_take (i := 6) (N := some 107) (v := ?_) (a' := ?_) (bm 13 127) rfl rfl (by kernel_rfl) (fun _ _ _ h => h) hHeld (Or.inl ⟨by rfl, ?_⟩) ?_ ?_
            rotate_left
            · intro w' hw'
              obtain ⟨ad2, A6, c6, hAd2, r0, r1, r2, r3, r4, r5, _, _⟩ := HAT.out w' hw'.bel
              obtain rfl := Option.some.inj hAd2
              go_simp
              with_reducible rfl
            rotate_left
            · simp only [Act.put, List.setIfInBounds_toArray, List.set_cons_zero, List.set_cons_succ]
              rfl
            refine rg_take (i := 7) (N := some 108) (v := ?_) (a' := ?_) (bm 13 255) rfl rfl (by kernel_rfl) (fun _ _ _ h => h) hHeld (Or.inl ⟨by rfl, ?_⟩) ?_ ?_
            rotate_left
            · intro w' hw'
              obtain ⟨ad2, A6, c6, hAd2, r0, r1, r2, r3, r4, r5, _, _⟩ := HAT.out w' hw'.bel
              obtain rfl := Option.some.inj hAd2
              go_simp
              with_reducible rfl
            rotate_left
            · simp only [Act.put, List.setIfInBounds_toArray, List.set_cons_zero, List.set_cons_succ]
              rfl
            refine rg_take (i := 8) (N := some 109) (v := ?_) (a' := ?_) (bm 13 511) rfl rfl (by kernel_rfl) (fun _ _ _ h => h) hHeld (Or.inl ⟨by rfl, ?_⟩) ?_ ?_
            rotate_left
            · intro w' hw'
              obtain ⟨ad2, A6, c6, hAd2, r0, r1, r2, r3, r4, r5, _, _⟩ := HAT.out w' hw'.bel
              obtain rfl := Option.some.inj hAd2
              go_simp
              with_reducible rfl
            rotate_left
            · simp only [Act.put, List.setIfInBounds_toArray, List.set_cons_zero, List.set_cons_succ]
              rfl
            refine rg_take (i := 9) (N := some 110) (v := ?_) (a' := ?_) (bm 13 1023) rfl rfl (by kernel_rfl) (fun _ _ _ h => h) hHeld (Or.inl ⟨by rfl, ?_⟩) ?_ ?_
            rotate_left
            · intro w' hw'
              obtain ⟨ad2, A6, c6, hAd2, r0, r1, r2, r3, r4, r5, _, _⟩ := HAT.out w' hw'.bel
              obtain rfl := Option.some.inj hAd2
              go_simp
              with_reducible rfl
            rotate_left
            · simp only [Act.put, List.setIfInBounds_toArray, List.set_cons_zero, List.set_cons_succ]
              rfl
            refine rg_take (i := 10) (N := some 111) (v := ?_) (a' := ?_) (bm 13 2047) rfl rfl (by kernel_rfl) (fun _ _ _ h => h) hHeld (Or.inl ⟨by rfl, ?_⟩) ?_ ?_
            rotate_left
            · intro w' hw'
              obtain ⟨ad2, A6, c6, hAd2, r0, r1, r2, r3, r4, r5, _, _⟩ := HAT.out w' hw'.bel
              obtain rfl := Option.some.inj hAd2
              go_simp
              with_reducible rfl
            rotate_left
            · simp only [Act.put, List.setIfInBounds_toArray, List.set_cons_zero, List.set_cons_succ]
              rfl
            refine rg_ready [11] (by kernel_rfl) (by simp) ?_
            refine rg_one (i := 11) (N := some 112) (bm 13 4095) rfl rfl (by kernel_rfl) (fun K hK => ?_) rg_nil
            have HWd : Aside0 (SB w wd _) := ⟨hwd.out ▸ HW1.out.drew⟩
            go_simp
            go_at_call 19
            with_reducible refine (globSetH (p := p) HWd.out (by omega) (t : Int) x.f2 (by have := HOX.out; unfold okA at this; have := this.1; rw [HXT.out] at this; exact this) (by have := HOX.out; unfold okA at this; exact this.2.1) HSE.out).mono ?_
            rintro e wx11r16 ⟨rfl, hs⟩
            have HW2 := Aside0.mk hs
            have hnew := hs.pick [0]
            clear hs
            obtain ⟨ad3, A8, c8, hAd3, r0, r1, r2, r3, r4, r5, _, _⟩ := HAT.out wx11r16 hnew.bel
            obtain rfl := Option.some.inj hAd3
            refine hK.out _ _ hnew ?_
            clear hK K
            refine rg_norm (a' := ?_) ?_ ?_
            rotate_left
            · simp only [Act.put, List.setIfInBounds_toArray, List.set_cons_zero, List.set_cons_succ]
              rfl
            clear hHeld
            have hHeld := hnew
            clear hnew
            refine rg_take (i := 12) (N := some 14) (v := ?_) (a' := ?_) (bm 13 8191) rfl rfl (by kernel_rfl) (fun _ _ _ h => h) hHeld (Or.inl ⟨by rfl, ?_⟩) ?_ ?_
            rotate_left
            · intro w' hw'
              obtain ⟨ad2, A6, c6, hAd2, r0, r1, r2, r3, r4, r5, _, _⟩ := HAT.out w' hw'.bel
              obtain rfl := Option.some.inj hAd2
              go_simp
              with_reducible rfl
            rotate_left
            · simp only [Act.put, List.setIfInBounds_toArray, List.set_cons_zero, List.set_cons_succ]
              rfl
            refine rg_done (by kernel_rfl) ?_
            go_wp2_with (go_at_call 17; (with_reducible refine (ints_Fits.calls y.f0 x.f2 _ _ HFIT.out).mono ?_); rintro e w5 ⟨rfl, hd⟩; have HW3 := Aside0.mk (HW2.out.below (drawn_below hd)); clear hd; obtain ⟨ad4, A9, c9, hAd4, s0, s1, s2, s3, s4, s5, _, _⟩ := HAT.out w5 HW3.out.bel; obtain rfl := Option.some.inj hAd4)
            refine rg_startL (n := 13) (S := fun w' => SB w w' [GO p (gl.set t ⟨y.f0, true, x.f2⟩)]) (bm 13 0) (by kernel_rfl) rfl (by kernel_rfl) ((HW3.out.drew.pick [1])) (fun we hwe hHeld => ?_)
            refine rg_take (i := 0) (N := some 151) (v := ?_) (a' := ?_) (bm 13 1) rfl rfl (by kernel_rfl) (fun _ _ _ h => h) hHeld (Or.inl ⟨by rfl, ?_⟩) ?_ ?_
            rotate_left
            · intro w' hw'
              obtain ⟨ad2, A6, c6, hAd2, r0, r1, r2, r3, r4, r5, _, _⟩ := HAT.out w' hw'.bel
              obtain rfl := Option.some.inj hAd2
              go_simp
              with_reducible rfl
            rotate_left
            · simp only [Act.put, List.setIfInBounds_toArray, List.set_cons_zero, List.set_cons_succ]
              rfl
            refine rg_take (i := 1) (N := some 152) (v := ?_) (a' := ?_) (bm 13 3) rfl rfl (by kernel_rfl) (fun _ _ _ h => h) hHeld (Or.inl ⟨by rfl, ?_⟩) ?_ ?_
            rotate_left
            · intro w' hw'
              obtain ⟨ad2, A6, c6, hAd2, r0, r1, r2, r3, r4, r5, _, _⟩ := HAT.out w' hw'.bel
              obtain rfl := Option.some.inj hAd2
              go_simp
              with_reducible rfl
            rotate_left
            · simp only [Act.put, List.setIfInBounds_toArray, List.set_cons_zero, List.set_cons_succ]
              rfl
            refine rg_take (i := 2) (N := some 153) (v := ?_) (a' := ?_) (bm 13 7) rfl rfl (by kernel_rfl) (fun _ _ _ h => h) hHeld (Or.inl ⟨by rfl, ?_⟩) ?_ ?_
            rotate_left
            · intro w' hw'
              obtain ⟨ad2, A6, c6, hAd2, r0, r1, r2, r3, r4, r5, _, _⟩ := HAT.out w' hw'.bel
              obtain rfl := Option.some.inj hAd2
              go_simp
              with_reducible rfl
            rotate_left
            · simp only [Act.put, List.setIfInBounds_toArray, List.set_cons_zero, List.set_cons_succ]
              rfl
            refine rg_take (i := 3) (N := some 154) (v := ?_) (a' := ?_) (bm 13 15) rfl rfl (by kernel_rfl) (fun _ _ _ h => h) hHeld (Or.inl ⟨by rfl, ?_⟩) ?_ ?_
            rotate_left
            · intro w' hw'
              obtain ⟨ad2, A6, c6, hAd2, r0, r1, r2, r3, r4, r5, _, _⟩ := HAT.out w' hw'.bel
              obtain rfl := Option.some.inj hAd2
              go_simp
              with_reducible rfl
            rotate_left
            · simp only [Act.put, List.setIfInBounds_toArray, List.set_cons_zero, List.set_cons_succ]
              rfl
            refine rg_take (i := 4) (N := some 155) (v := ?_) (a' := ?_) (bm 13 31) rfl rfl (by kernel_rfl) (fun _ _ _ h => h) hHeld (Or.inl ⟨by rfl, ?_⟩) ?_ ?_
            rotate_left
            · intro w' hw'
              obtain ⟨ad2, A6, c6, hAd2, r0, r1, r2, r3, r4, r5, _, _⟩ := HAT.out w' hw'.bel
              obtain rfl := Option.some.inj hAd2
              go_simp
              with_reducible rfl
            rotate_left
            · simp only [Act.put, List.setIfInBounds_toArray, List.set_cons_zero, List.set_cons_succ]
              rfl
            refine rg_take (i := 5) (N := some 156) (v := ?_) (a' := ?_) (bm 13 63) rfl rfl (by kernel_rfl) (fun _ _ _ h => h) hHeld (Or.inl ⟨by rfl, ?_⟩) ?_ ?_
            rotate_left
            · intro w' hw'
              obtain ⟨ad2, A6, c6, hAd2, r0, r1, r2, r3, r4, r5, _, _⟩ := HAT.out w' hw'.bel
              obtain rfl := Option.some.inj hAd2
              go_simp
              with_reducible rfl
            rotate_left
            · simp only [Act.put, List.setIfInBounds_toArray, List.set_cons_zero, List.set_cons_succ]
              rfl
            refine rg_take (i := 6) (N := some 157) (v := ?_) (a' := ?_) (bm 13 127) rfl rfl (by kernel_rfl) (fun _ _ _ h => h) hHeld (Or.inl ⟨by rfl, ?_⟩) ?_ ?_
            rotate_left
            · intro w' hw'
              obtain ⟨ad2, A6, c6, hAd2, r0, r1, r2, r3, r4, r5, _, _⟩ := HAT.out w' hw'.bel
              obtain rfl := Option.some.inj hAd2
              go_simp
              with_reducible rfl
            rotate_left
            · simp only [Act.put, List.setIfInBounds_toArray, List.set_cons_zero, List.set_cons_succ]
              rfl
            refine rg_take (i := 7) (N := some 158) (v := ?_) (a' := ?_) (bm 13 255) rfl rfl (by kernel_rfl) (fun _ _ _ h => h) hHeld (Or.inl ⟨by rfl, ?_⟩) ?_ ?_
            rotate_left
            · intro w' hw'
              obtain ⟨ad2, A6, c6, hAd2, r0, r1, r2, r3, r4, r5, _, _⟩ := HAT.out w' hw'.bel
              obtain rfl := Option.some.inj hAd2
              go_simp
              with_reducible rfl
            rotate_left
            · simp only [Act.put, List.setIfInBounds_toArray, List.set_cons_zero, List.set_cons_succ]
              rfl
            refine rg_take (i := 8) (N := some 159) (v := ?_) (a' := ?_) (bm 13 511) rfl rfl (by kernel_rfl) (fun _ _ _ h => h) hHeld (Or.inl ⟨by rfl, ?_⟩) ?_ ?_
            rotate_left
            · intro w' hw'
              obtain ⟨ad2, A6, c6, hAd2, r0, r1, r2, r3, r4, r5, _, _⟩ := HAT.out w' hw'.bel
              obtain rfl := Option.some.inj hAd2
              go_simp
              with_reducible rfl
            rotate_left
            · simp only [Act.put, List.setIfInBounds_toArray, List.set_cons_zero, List.set_cons_succ]
              rfl
            refine rg_take (i := 9) (N := some 160) (v := ?_) (a' := ?_) (bm 13 1023) rfl rfl (by kernel_rfl) (fun _ _ _ h => h) hHeld (Or.inl ⟨by rfl, ?_⟩) ?_ ?_
            rotate_left
            · intro w' hw'
              obtain ⟨ad2, A6, c6, hAd2, r0, r1, r2, r3, r4, r5, _, _⟩ := HAT.out w' hw'.bel
              obtain rfl := Option.some.inj hAd2
              go_simp
              with_reducible rfl
            rotate_left
            · simp only [Act.put, List.setIfInBounds_toArray, List.set_cons_zero, List.set_cons_succ]
              rfl
            refine rg_take (i := 10) (N := some 161) (v := ?_) (a' := ?_) (bm 13 2047) rfl rfl (by kernel_rfl) (fun _ _ _ h => h) hHeld (Or.inl ⟨by rfl, ?_⟩) ?_ ?_
            rotate_left
            · intro w' hw'
              obtain ⟨ad2, A6, c6, hAd2, r0, r1, r2, r3, r4, r5, _, _⟩ := HAT.out w' hw'.bel
              obtain rfl := Option.some.inj hAd2
              go_simp
              with_reducible rfl
            rotate_left
            · simp only [Act.put, List.setIfInBounds_toArray, List.set_cons_zero, List.set_cons_succ]
              rfl
            refine rg_take (i := 11) (N := some 162) (v := ?_) (a' := ?_) (bm 13 4095) rfl rfl (by kernel_rfl) (fun _ _ _ h => h) hHeld (Or.inl ⟨by rfl, ?_⟩) ?_ ?_
            rotate_left
            · intro w' hw'
              obtain ⟨ad2, A6, c6, hAd2, r0, r1, r2, r3, r4, r5, _, _⟩ := HAT.out w' hw'.bel
              obtain rfl := Option.some.inj hAd2
              go_simp
              with_reducible rfl
            rotate_left
            · simp only [Act.put, List.setIfInBounds_toArray, List.set_cons_zero, List.set_cons_succ]
              rfl
            refine rg_ready [12] (by kernel_rfl) (by simp) ?_
            refine rg_one (i := 12) (N := none) (bm 13 8191) rfl rfl (by kernel_rfl) (fun K hK => ?_) rg_nil
            have HWe : Aside0 (SB w we _) := ⟨hwe.out ▸ HW3.out.drew⟩
            obtain ⟨hz, hzf⟩ := HWe.out.cellI (i := t) (by rw [HWL.out]; omega)
            have HW4 := Aside0.mk (HWe.out.putI t x.f2)
            have hnew := HW4.out.pick [1]
            go_simp
            refine hK.out undef _ hnew ?_
            clear hK K
            refine rg_norm (a' := ?_) ?_ ?_
            rotate_left
            · simp only [Act.put, List.setIfInBounds_toArray, List.set_cons_zero, List.set_cons_succ]
              rfl
            clear hHeld
            have hHeld := hnew
            clear hnew
            refine rg_done (by kernel_rfl) ?_
            go_wp2
            refine ⟨⟨i + 1, gl.set t ⟨y.f0, true, x.f2⟩, rfl, by omega, by rw [List.length_set]; exact hgl, ⟨by rw [map_set, HWS.out]; exact HW4.out⟩⟩, ?_⟩
            show l.length - (intOf (.int .i64 ((i : Int) + 1))).toNat < _
            simp [intOf]
            omega
      · have e3 : decide ((i : Int) < (l.length : Int)) = false := decide_eq_false (by omega)
        have e4 : decide (i < l.length) = false := decide_eq_false hlt2
        obtain rfl : i = l.length := by omega
        rw [← HWL.out] at HW ⊢
        obtain ⟨kw, hkw⟩ : ∃ k, avocetref14_Words.f k ws ws = some true := ⟨_, words_self ws (by rw [HWL.out]; omega)⟩
        have HKW := Aside0.mk hkw
        clear hkw
        go_wp2_with (first
          | (go_at_call 16; (with_reducible refine (globAddNil _ _ _ _).mono ?_); rintro e x1 ⟨rfl, hd⟩; have HX1 := Aside0.mk (HW.out.below (drawn_below hd)); clear hd)
          | (go_at_call 20; (with_reducible refine (globGetNil _ _).mono ?_); rintro e x2 ⟨rfl, hd⟩; have HX2 := Aside0.mk (HX1.out.below (drawn_below hd)); clear hd)
          | (go_at_call 12; (with_reducible refine (tabAtNil 0 _ (by decide)).mono ?_); rintro e x3 ⟨rfl, hd⟩; have HX3 := Aside0.mk (HX2.out.below (drawn_below hd)); clear hd)
          | (go_at_call 22; (with_reducible refine (globAllH (p := p) HX3.out (by omega) HWS.out).mono ?_); rintro e x4 ⟨v, rfl, hs⟩; obtain ⟨A9, c9, rfl, hc9, hC9⟩ := hs.reads; obtain ⟨A8, c8, h8, hc8, hC8⟩ := (hs.pick [1]).reads; injection h8 with h8a h8n h8c; subst h8a h8c; have HX4 := Aside0.mk hs; have HC8 := Aside0.mk hC8; have HC9 := Aside0.mk hC9; clear hs h8n hC8 hC9)
          | (go_at_call 21; (with_reducible refine (avocetref14_Words.calls kw _ _ ws _ _ ws _ _ HC9.out hc9 HC8.out hc8 HKW.out).mono ?_); rintro e x5 ⟨rfl, hd⟩; have HX5 := Aside0.mk (HX4.out.below (drawn_below hd)); clear hd)
          | (go_at_call 19; (with_reducible refine (globSetNil _ _ _).mono ?_); rintro e x6 ⟨rfl, hd⟩; have HX6 := Aside0.mk (HX5.out.below (drawn_below hd)); clear hd)
          | (go_at_call 14; (with_reducible refine (tabLenNil _).mono ?_); rintro e x7 ⟨rfl, hd⟩; have HX7 := Aside0.mk (HX6.out.below (drawn_below hd)); clear hd)
          | (go_at_call 10; (with_reducible refine (tabLayNil0 _).mono ?_); rintro e x8 ⟨rfl, hd⟩; have HX8 := Aside0.mk (HX7.out.below (drawn_below hd)); clear hd)
          | (go_at_call 10; (with_reducible refine (tabLayNil1 _ _).mono ?_); rintro e x9 ⟨rfl, hd⟩; have HX9 := Aside0.mk ((HX8.out.alloc _).below (drawn_below hd)); clear hd))
        go_ret
        exact ⟨rfl, HX9.out.bel⟩
def avocetlaw14_TableGlobs.f (l0 : List (S40)) (a1 : Int) : Option (Bool) := if ∀ x ∈ l0, okA x then some true else none
theorem avocetlaw14_TableGlobs.calls (A0 : Option Addr) (c0 : Nat) (l0 : List (S40)) (a1 : Int) (r : Bool) (w : World) (hr0 : Kd.C k40 w A0 l0.length l0) (hc0 : l0.length ≤ c0) (hr_ : r = true) (h : avocetlaw14_TableGlobs.f l0 a1 = some r) :
    Calls Try.prog 5 #[.slice A0 l0.length c0, .int .i64 a1] w fun e w' => e = .returned (.bool r) ∧ Below w.heap.size w w' := by
  subst hr_
  have hok : ∀ x ∈ l0, okA x := by
    by_cases hn : ∀ x ∈ l0, okA x
    · exact hn
    · unfold avocetlaw14_TableGlobs.f at h
      rw [if_neg hn] at h
      simp at h
  exact tableGlobs l0 A0 c0 a1 w hr0 hc0 hok
end Go.Proofs.Ytjdnkhgpnddncaa.G

