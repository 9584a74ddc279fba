/- The law TableTypes walked. -/
import Derived.Test.YtjdnkhgpnddncaaTabE
namespace Go.Proofs.Ytjdnkhgpnddncaa.G
open Go.RowKit Go.Proofs.YtjdnkhgpnddncaaW.PrintWords Go.Proofs.YtjdnkhgpnddncaaW.PrintLast Go.Proofs.YtjdnkhgpnddncaaW.PrintMore
attribute [local go_sem] max2_int min2_int max_two min_two max_three min_three max_four min_four   -- for this text's walks alone
set_option linter.unusedVariables false
set_option linter.unusedSimpArgs false
theorem rd_rep {n i : Nat} {x : S95} (h : i < n) : rd_T95 (List.replicate n x) (i : Int) = x := by
  rw [rd_get (by rw [List.length_replicate]; exact h), List.getElem_replicate]
theorem rd_last {i : Nat} {x y : S95} : rd_T95 (List.replicate i x ++ [y]) (i : Int) = y := by
  rw [rd_get (by simp)]
  simp
theorem gType_rep {n i : Nat} {x : S95} (h : i < n) : gType (List.replicate n x) i = (x.f0, x.f1, true) := by
  unfold gType
  rw [if_pos ⟨by omega, by rw [List.length_replicate]; omega⟩, rd_rep h]
theorem gGet_rep {n i : Nat} {x : S95} (h : i < n) : gGet (List.replicate n x) i = (x.f2, true) := by
  unfold gGet
  rw [if_pos ⟨by omega, by rw [List.length_replicate]; omega⟩, rd_rep h]
theorem gType_out {n : Nat} {x : S95} : gType (List.replicate n x) n = (0, false, false) := by
  unfold gType
  rw [if_neg (by rw [List.length_replicate]; omega)]
theorem gSet_out {n i : Nat} {x : S95} {v : Int} (h : n ≤ i) : gSet (List.replicate n x) i v = (6, List.replicate n x) := by
  unfold gSet
  rw [if_neg (by rw [List.length_replicate]; omega)]
theorem gAdd_full {x : S95} {t v : Int} {m : Bool} : gAdd (List.replicate 128 x) t m v = (0, 4, List.replicate 128 x) := by
  unfold gAdd
  rw [if_pos (by rw [List.length_replicate]; decide)]
theorem gAdd_rep {i : Nat} {x : S95} {t v : Int} {m : Bool} (h : i < 128) (hf : fit t v = true) : gAdd (List.replicate i x) t m v = ((i : Int), 0, List.replicate i x ++ [⟨t, m, v⟩]) := by
  unfold gAdd
  rw [if_neg (by rw [List.length_replicate]; omega), if_pos hf, List.length_replicate]
theorem gAdd_no {t v : Int} {m : Bool} (hf : fit t v = false) : gAdd [] t m v = (0, 5, []) := by
  unfold gAdd
  rw [if_neg (by decide), hf, if_neg (by decide)]
theorem gSet_mut {i : Nat} {t v : Int} (hf : fit t 1 = true) : gSet (List.replicate i (⟨t, true, 1⟩ : S95) ++ [⟨t, true, v⟩]) i 1 = (0, List.replicate (i + 1) ⟨t, true, 1⟩) := by
  unfold gSet
  rw [if_pos ⟨by omega, by simp; omega⟩, rd_last, if_pos ⟨rfl, hf⟩, Int.toNat_natCast]
  congr 1
  rw [List.replicate_succ', List.set_append_right _ _ (by simp)]
  simp
theorem gSet_fix {i : Nat} {t v : Int} : gSet (List.replicate i (⟨t, false, v⟩ : S95) ++ [⟨t, false, v⟩]) i 1 = (5, List.replicate (i + 1) ⟨t, false, v⟩) := by
  unfold gSet
  rw [if_pos ⟨by omega, by simp; omega⟩, rd_last, if_neg (by simp), List.replicate_succ']
set_option maxRecDepth 100000 in
set_option maxHeartbeats 4000000 in
theorem types126true (v n : Int) (w : World) (hv : 0 ≤ v ∧ v < 18446744073709551616) (hf : fit 126 v = true) :
    Calls Try.prog 6 #[.int .u8 126, .bool true, .int .u64 v, .int .i64 n] w fun e w' => e = .returned (.bool true) ∧ Below w.heap.size w w' := by
  obtain ⟨k, hk, hk2⟩ := and_lowi n 255 (by decide)
  replace hk : bits .and .i64 n 255 = (k : Int) := hk
  obtain ⟨x, hx⟩ : ∃ x : S95, x = ⟨126, true, 1⟩ := ⟨_, rfl⟩
  have hfv : True := by unfold fit at hf; simp at hf; trivial
  have HV := Aside0.mk hv
  have HF := Aside0.mk hf
  have HX := Aside0.mk hx
  obtain ⟨mk, hmk⟩ : ∃ mk : Nat, mk = min k 128 := ⟨_, rfl⟩
  have hm1 : (if 128 < k then (128 : Int) else (k : Int)) = (mk : Int) := by rw [hmk]; split <;> omega
  have hm2 : (if (128 : Int) < (k : Int) then (128 : Int) else (k : Int)) = (mk : Int) := by rw [hmk]; split <;> omega
  have HMK := Aside0.mk hmk
  clear hv hf hx hmk
  go_enter Try.func6, Try.ntmps6
  go_wp2_with (go_at_call 8; (with_reducible refine (awake _).mono ?_); rintro e w1 ⟨rfl, hb⟩; have HB := Aside0.mk hb; clear hb)
  obtain ⟨p, hp⟩ : ∃ p, w1.heap.size = p := ⟨_, rfl⟩
  have HS := Aside0.mk (((SB.start w).below HB.out).newGlobs)
  rw [hp] at HS
  go_loopw [12, 13, 14, 15] (fun v12 v13 v14 v15 wr => ∃ (i q : Nat), v12 = .int .i64 q ∧ v13 = .int .i64 i ∧ i ≤ k ∧ Aside0 (q = min i 128) ∧ Aside0 (SB w wr [GO p (List.replicate q x)])) (fun _ v13 _ _ _ => k - (intOf v13).toNat)
  case atStart => exact ⟨0, 0, rfl, rfl, Nat.zero_le _, ⟨by simp⟩, HS⟩
  case round =>
    obtain ⟨i, q, rfl, rfl, hi, HQ, HW⟩ := hrel
    rw [hp]
    by_cases hlt : i < k
    · have e1 : decide ((i : Int) < (k : Int)) = true := decide_eq_true (by omega)
      have e2 : decide (i < k) = true := decide_eq_true hlt
      by_cases h128 : i < 128
      · obtain rfl : q = i := by have := HQ.out; omega
        have ha := Aside0.mk (gAdd_rep (x := x) (m := true) h128 HF.out)
        have hs0 := Aside0.mk (show gSet (List.replicate q x ++ [⟨126, true, v⟩]) q 1 = (0, List.replicate (q + 1) x) by rw [HX.out]; exact gSet_mut (by decide))
        go_wp2_with (first
          | (go_at_call 16; (with_reducible refine (globAddH (p := p) HW.out (by rw [List.length_replicate]; omega) 126 true v (by decide) HV.out ha.out).mono ?_); rintro e w2 ⟨rfl, hs⟩; have HW2 := Aside0.mk hs; clear hs)
          | (go_at_call 19; (with_reducible refine (globSetH (p := p) HW2.out (by rw [List.length_append, List.length_replicate]; simp; omega) q 1 (by unfold okI; omega) (by decide) hs0.out).mono ?_); rintro e w3 ⟨rfl, hs⟩; have HW3 := Aside0.mk hs; clear hs))
        exact ⟨⟨q + 1, q + 1, by simp, by simp, by omega, ⟨by omega⟩, HW3⟩, by simp [intOf]; omega⟩
      · obtain rfl : q = 128 := by have := HQ.out; omega
        have ha := Aside0.mk (gAdd_full (x := x) (t := 126) (v := v) (m := true))
        have hs0 := Aside0.mk (gSet_out (n := 128) (i := i) (x := x) (v := 1) (by omega))
        go_wp2_with (first
          | (go_at_call 16; (with_reducible refine (globAddH (p := p) HW.out (by rw [List.length_replicate]; omega) 126 true v (by decide) HV.out ha.out).mono ?_); rintro e w2 ⟨rfl, hs⟩; have HW2 := Aside0.mk hs; clear hs)
          | (go_at_call 19; (with_reducible refine (globSetH (p := p) HW2.out (by rw [List.length_replicate]; omega) i 1 (by unfold okI; omega) (by decide) hs0.out).mono ?_); rintro e w3 ⟨rfl, hs⟩; have HW3 := Aside0.mk hs; clear hs))
        exact ⟨⟨i + 1, 128, rfl, by simp, by omega, ⟨by omega⟩, HW3⟩, by simp [intOf]; omega⟩
    · have e1 : decide ((i : Int) < (k : Int)) = false := decide_eq_false (by omega)
      have e2 : decide (i < k) = false := decide_eq_false hlt
      obtain rfl : q = mk := by have := HQ.out; have := HMK.out; omega
      have hq128 : q ≤ 128 := by have := HMK.out; omega
      skip
      go_wp2
      rename_i wq
      go_loopw [17, 18, 19, 20, 21, 22] (fun v17 v18 v19 v20 v21 v22 wr2 => ∃ j : Nat, v17 = .int .i64 j ∧ j ≤ q ∧ Aside0 (SB w wr2 [GO p (List.replicate q x)])) (fun v17 _ _ _ _ _ _ => q - (intOf v17).toNat)
      case atStart => exact ⟨0, rfl, Nat.zero_le _, HW⟩
      case round =>
        obtain ⟨j, rfl, hj, HW2⟩ := hrel
        by_cases hlt2 : j < q
        · have e3 : decide ((j : Int) < (q : Int)) = true := decide_eq_true (by omega)
          have e4 : decide (j < q) = true := decide_eq_true hlt2
          have ht := Aside0.mk (show gType (List.replicate q x) j = (126, true, true) by rw [gType_rep hlt2, HX.out])
          have hg := Aside0.mk (show gGet (List.replicate q x) j = (1, true) by rw [gGet_rep hlt2, HX.out])
          go_wp2_with (first
            | (go_at_call 18; (with_reducible refine (globTypeH (p := p) HW2.out (by rw [List.length_replicate]; omega) j (by unfold okI; omega) ht.out).mono ?_); rintro e w5 ⟨rfl, hs⟩; have HW3 := Aside0.mk hs; clear hs)
            | (go_at_call 20; (with_reducible refine (globGetH (p := p) HW3.out (by rw [List.length_replicate]; omega) j (by unfold okI; omega) hg.out).mono ?_); rintro e w6 ⟨rfl, hs⟩; have HW4 := Aside0.mk hs; clear hs))
          exact ⟨⟨j + 1, by simp, by omega, HW4⟩, by simp [intOf]; omega⟩
        · have e3 : decide ((j : Int) < (q : Int)) = false := decide_eq_false (by omega)
          have e4 : decide (j < q) = false := decide_eq_false hlt2
          have ht := Aside0.mk (gType_out (n := q) (x := x))
          have hal : (List.replicate q x).map S95.f2 = List.replicate q x.f2 := by simp
          obtain ⟨ls, hls⟩ : ∃ ls, List.replicate q x.f2 = ls := ⟨_, rfl⟩
          have hll : ls.length = q := by rw [← hls, List.length_replicate]
          have HAL := Aside0.mk (hal.trans hls)
          have HLL := Aside0.mk hll
          clear hal hls hll
          go_wp2_with (first
            | (go_at_call 18; (with_reducible refine (globTypeH (p := p) HW2.out (by rw [List.length_replicate]; omega) q (by unfold okI; omega) ht.out).mono ?_); rintro e w5 ⟨rfl, hs⟩; have HW3 := Aside0.mk hs; clear hs)
            | (go_at_call 22; (with_reducible refine (globAllH (p := p) HW3.out (by rw [List.length_replicate]; omega) HAL.out).mono ?_); rintro e w6 ⟨va, rfl, hs⟩; have HW4 := Aside0.mk hs; clear hs; obtain ⟨Aa, ca, rfl, _, _⟩ := HW4.out.reads; rw [HLL.out]))
          go_ret
          exact ⟨by first | rfl | simp, HW4.out.bel⟩
set_option maxRecDepth 100000 in
set_option maxHeartbeats 4000000 in
theorem types126false (v n : Int) (w : World) (hv : 0 ≤ v ∧ v < 18446744073709551616) (hf : fit 126 v = true) :
    Calls Try.prog 6 #[.int .u8 126, .bool false, .int .u64 v, .int .i64 n] w fun e w' => e = .returned (.bool true) ∧ Below w.heap.size w w' := by
  obtain ⟨k, hk, hk2⟩ := and_lowi n 255 (by decide)
  replace hk : bits .and .i64 n 255 = (k : Int) := hk
  obtain ⟨x, hx⟩ : ∃ x : S95, x = ⟨126, false, v⟩ := ⟨_, rfl⟩
  have hfv : True := by unfold fit at hf; simp at hf; trivial
  have HV := Aside0.mk hv
  have HF := Aside0.mk hf
  have HX := Aside0.mk hx
  obtain ⟨mk, hmk⟩ : ∃ mk : Nat, mk = min k 128 := ⟨_, rfl⟩
  have hm1 : (if 128 < k then (128 : Int) else (k : Int)) = (mk : Int) := by rw [hmk]; split <;> omega
  have hm2 : (if (128 : Int) < (k : Int) then (128 : Int) else (k : Int)) = (mk : Int) := by rw [hmk]; split <;> omega
  have HMK := Aside0.mk hmk
  clear hv hf hx hmk
  go_enter Try.func6, Try.ntmps6
  go_wp2_with (go_at_call 8; (with_reducible refine (awake _).mono ?_); rintro e w1 ⟨rfl, hb⟩; have HB := Aside0.mk hb; clear hb)
  obtain ⟨p, hp⟩ : ∃ p, w1.heap.size = p := ⟨_, rfl⟩
  have HS := Aside0.mk (((SB.start w).below HB.out).newGlobs)
  rw [hp] at HS
  go_loopw [12, 13, 14, 15] (fun v12 v13 v14 v15 wr => ∃ (i q : Nat), v12 = .int .i64 q ∧ v13 = .int .i64 i ∧ i ≤ k ∧ Aside0 (q = min i 128) ∧ Aside0 (SB w wr [GO p (List.replicate q x)])) (fun _ v13 _ _ _ => k - (intOf v13).toNat)
  case atStart => exact ⟨0, 0, rfl, rfl, Nat.zero_le _, ⟨by simp⟩, HS⟩
  case round =>
    obtain ⟨i, q, rfl, rfl, hi, HQ, HW⟩ := hrel
    rw [hp]
    by_cases hlt : i < k
    · have e1 : decide ((i : Int) < (k : Int)) = true := decide_eq_true (by omega)
      have e2 : decide (i < k) = true := decide_eq_true hlt
      by_cases h128 : i < 128
      · obtain rfl : q = i := by have := HQ.out; omega
        have ha := Aside0.mk (gAdd_rep (x := x) (m := false) h128 HF.out)
        have hs0 := Aside0.mk (show gSet (List.replicate q x ++ [⟨126, false, v⟩]) q 1 = (5, List.replicate (q + 1) x) by rw [HX.out]; exact gSet_fix)
        go_wp2_with (first
          | (go_at_call 16; (with_reducible refine (globAddH (p := p) HW.out (by rw [List.length_replicate]; omega) 126 false v (by decide) HV.out ha.out).mono ?_); rintro e w2 ⟨rfl, hs⟩; have HW2 := Aside0.mk hs; clear hs)
          | (go_at_call 19; (with_reducible refine (globSetH (p := p) HW2.out (by rw [List.length_append, List.length_replicate]; simp; omega) q 1 (by unfold okI; omega) (by decide) hs0.out).mono ?_); rintro e w3 ⟨rfl, hs⟩; have HW3 := Aside0.mk hs; clear hs))
        exact ⟨⟨q + 1, q + 1, by simp, by simp, by omega, ⟨by omega⟩, HW3⟩, by simp [intOf]; omega⟩
      · obtain rfl : q = 128 := by have := HQ.out; omega
        have ha := Aside0.mk (gAdd_full (x := x) (t := 126) (v := v) (m := false))
        have hs0 := Aside0.mk (gSet_out (n := 128) (i := i) (x := x) (v := 1) (by omega))
        go_wp2_with (first
          | (go_at_call 16; (with_reducible refine (globAddH (p := p) HW.out (by rw [List.length_replicate]; omega) 126 false v (by decide) HV.out ha.out).mono ?_); rintro e w2 ⟨rfl, hs⟩; have HW2 := Aside0.mk hs; clear hs)
          | (go_at_call 19; (with_reducible refine (globSetH (p := p) HW2.out (by rw [List.length_replicate]; omega) i 1 (by unfold okI; omega) (by decide) hs0.out).mono ?_); rintro e w3 ⟨rfl, hs⟩; have HW3 := Aside0.mk hs; clear hs))
        exact ⟨⟨i + 1, 128, rfl, by simp, by omega, ⟨by omega⟩, HW3⟩, by simp [intOf]; omega⟩
    · have e1 : decide ((i : Int) < (k : Int)) = false := decide_eq_false (by omega)
      have e2 : decide (i < k) = false := decide_eq_false hlt
      obtain rfl : q = mk := by have := HQ.out; have := HMK.out; omega
      have hq128 : q ≤ 128 := by have := HMK.out; omega
      skip
      go_wp2
      rename_i wq
      go_loopw [17, 18, 19, 20, 21, 22] (fun v17 v18 v19 v20 v21 v22 wr2 => ∃ j : Nat, v17 = .int .i64 j ∧ j ≤ q ∧ Aside0 (SB w wr2 [GO p (List.replicate q x)])) (fun v17 _ _ _ _ _ _ => q - (intOf v17).toNat)
      case atStart => exact ⟨0, rfl, Nat.zero_le _, HW⟩
      case round =>
        obtain ⟨j, rfl, hj, HW2⟩ := hrel
        by_cases hlt2 : j < q
        · have e3 : decide ((j : Int) < (q : Int)) = true := decide_eq_true (by omega)
          have e4 : decide (j < q) = true := decide_eq_true hlt2
          have ht := Aside0.mk (show gType (List.replicate q x) j = (126, false, true) by rw [gType_rep hlt2, HX.out])
          have hg := Aside0.mk (show gGet (List.replicate q x) j = (v, true) by rw [gGet_rep hlt2, HX.out])
          go_wp2_with (first
            | (go_at_call 18; (with_reducible refine (globTypeH (p := p) HW2.out (by rw [List.length_replicate]; omega) j (by unfold okI; omega) ht.out).mono ?_); rintro e w5 ⟨rfl, hs⟩; have HW3 := Aside0.mk hs; clear hs)
            | (go_at_call 20; (with_reducible refine (globGetH (p := p) HW3.out (by rw [List.length_replicate]; omega) j (by unfold okI; omega) hg.out).mono ?_); rintro e w6 ⟨rfl, hs⟩; have HW4 := Aside0.mk hs; clear hs))
          exact ⟨⟨j + 1, by simp, by omega, HW4⟩, by simp [intOf]; omega⟩
        · have e3 : decide ((j : Int) < (q : Int)) = false := decide_eq_false (by omega)
          have e4 : decide (j < q) = false := decide_eq_false hlt2
          have ht := Aside0.mk (gType_out (n := q) (x := x))
          have hal : (List.replicate q x).map S95.f2 = List.replicate q x.f2 := by simp
          obtain ⟨ls, hls⟩ : ∃ ls, List.replicate q x.f2 = ls := ⟨_, rfl⟩
          have hll : ls.length = q := by rw [← hls, List.length_replicate]
          have HAL := Aside0.mk (hal.trans hls)
          have HLL := Aside0.mk hll
          clear hal hls hll
          go_wp2_with (first
            | (go_at_call 18; (with_reducible refine (globTypeH (p := p) HW2.out (by rw [List.length_replicate]; omega) q (by unfold okI; omega) ht.out).mono ?_); rintro e w5 ⟨rfl, hs⟩; have HW3 := Aside0.mk hs; clear hs)
            | (go_at_call 22; (with_reducible refine (globAllH (p := p) HW3.out (by rw [List.length_replicate]; omega) HAL.out).mono ?_); rintro e w6 ⟨va, rfl, hs⟩; have HW4 := Aside0.mk hs; clear hs; obtain ⟨Aa, ca, rfl, _, _⟩ := HW4.out.reads; rw [HLL.out]))
          go_ret
          exact ⟨by first | rfl | simp, HW4.out.bel⟩
set_option maxRecDepth 100000 in
set_option maxHeartbeats 4000000 in
theorem types127true (v n : Int) (w : World) (hv : 0 ≤ v ∧ v < 18446744073709551616) (hf : fit 127 v = true) :
    Calls Try.prog 6 #[.int .u8 127, .bool true, .int .u64 v, .int .i64 n] w fun e w' => e = .returned (.bool true) ∧ Below w.heap.size w w' := by
  obtain ⟨k, hk, hk2⟩ := and_lowi n 255 (by decide)
  replace hk : bits .and .i64 n 255 = (k : Int) := hk
  obtain ⟨x, hx⟩ : ∃ x : S95, x = ⟨127, true, 1⟩ := ⟨_, rfl⟩
  have hfv : v < 4294967296 := by unfold fit at hf; simp at hf; omega
  have HV := Aside0.mk hv
  have HF := Aside0.mk hf
  have HX := Aside0.mk hx
  obtain ⟨mk, hmk⟩ : ∃ mk : Nat, mk = min k 128 := ⟨_, rfl⟩
  have hm1 : (if 128 < k then (128 : Int) else (k : Int)) = (mk : Int) := by rw [hmk]; split <;> omega
  have hm2 : (if (128 : Int) < (k : Int) then (128 : Int) else (k : Int)) = (mk : Int) := by rw [hmk]; split <;> omega
  have HMK := Aside0.mk hmk
  clear hv hf hx hmk
  go_enter Try.func6, Try.ntmps6
  go_wp2_with (go_at_call 8; (with_reducible refine (awake _).mono ?_); rintro e w1 ⟨rfl, hb⟩; have HB := Aside0.mk hb; clear hb)
  obtain ⟨p, hp⟩ : ∃ p, w1.heap.size = p := ⟨_, rfl⟩
  have HS := Aside0.mk (((SB.start w).below HB.out).newGlobs)
  rw [hp] at HS
  go_loopw [12, 13, 14, 15] (fun v12 v13 v14 v15 wr => ∃ (i q : Nat), v12 = .int .i64 q ∧ v13 = .int .i64 i ∧ i ≤ k ∧ Aside0 (q = min i 128) ∧ Aside0 (SB w wr [GO p (List.replicate q x)])) (fun _ v13 _ _ _ => k - (intOf v13).toNat)
  case atStart => exact ⟨0, 0, rfl, rfl, Nat.zero_le _, ⟨by simp⟩, HS⟩
  case round =>
    obtain ⟨i, q, rfl, rfl, hi, HQ, HW⟩ := hrel
    rw [hp]
    by_cases hlt : i < k
    · have e1 : decide ((i : Int) < (k : Int)) = true := decide_eq_true (by omega)
      have e2 : decide (i < k) = true := decide_eq_true hlt
      by_cases h128 : i < 128
      · obtain rfl : q = i := by have := HQ.out; omega
        have ha := Aside0.mk (gAdd_rep (x := x) (m := true) h128 HF.out)
        have hs0 := Aside0.mk (show gSet (List.replicate q x ++ [⟨127, true, v⟩]) q 1 = (0, List.replicate (q + 1) x) by rw [HX.out]; exact gSet_mut (by decide))
        go_wp2_with (first
          | (go_at_call 16; (with_reducible refine (globAddH (p := p) HW.out (by rw [List.length_replicate]; omega) 127 true v (by decide) HV.out ha.out).mono ?_); rintro e w2 ⟨rfl, hs⟩; have HW2 := Aside0.mk hs; clear hs)
          | (go_at_call 19; (with_reducible refine (globSetH (p := p) HW2.out (by rw [List.length_append, List.length_replicate]; simp; omega) q 1 (by unfold okI; omega) (by decide) hs0.out).mono ?_); rintro e w3 ⟨rfl, hs⟩; have HW3 := Aside0.mk hs; clear hs))
        exact ⟨⟨q + 1, q + 1, by simp, by simp, by omega, ⟨by omega⟩, HW3⟩, by simp [intOf]; omega⟩
      · obtain rfl : q = 128 := by have := HQ.out; omega
        have ha := Aside0.mk (gAdd_full (x := x) (t := 127) (v := v) (m := true))
        have hs0 := Aside0.mk (gSet_out (n := 128) (i := i) (x := x) (v := 1) (by omega))
        go_wp2_with (first
          | (go_at_call 16; (with_reducible refine (globAddH (p := p) HW.out (by rw [List.length_replicate]; omega) 127 true v (by decide) HV.out ha.out).mono ?_); rintro e w2 ⟨rfl, hs⟩; have HW2 := Aside0.mk hs; clear hs)
          | (go_at_call 19; (with_reducible refine (globSetH (p := p) HW2.out (by rw [List.length_replicate]; omega) i 1 (by unfold okI; omega) (by decide) hs0.out).mono ?_); rintro e w3 ⟨rfl, hs⟩; have HW3 := Aside0.mk hs; clear hs))
        exact ⟨⟨i + 1, 128, rfl, by simp, by omega, ⟨by omega⟩, HW3⟩, by simp [intOf]; omega⟩
    · have e1 : decide ((i : Int) < (k : Int)) = false := decide_eq_false (by omega)
      have e2 : decide (i < k) = false := decide_eq_false hlt
      obtain rfl : q = mk := by have := HQ.out; have := HMK.out; omega
      have hq128 : q ≤ 128 := by have := HMK.out; omega
      have dv : decide (v < 4294967296) = true := decide_eq_true hfv
      go_wp2
      rename_i wq
      go_loopw [17, 18, 19, 20, 21, 22] (fun v17 v18 v19 v20 v21 v22 wr2 => ∃ j : Nat, v17 = .int .i64 j ∧ j ≤ q ∧ Aside0 (SB w wr2 [GO p (List.replicate q x)])) (fun v17 _ _ _ _ _ _ => q - (intOf v17).toNat)
      case atStart => exact ⟨0, rfl, Nat.zero_le _, HW⟩
      case round =>
        obtain ⟨j, rfl, hj, HW2⟩ := hrel
        by_cases hlt2 : j < q
        · have e3 : decide ((j : Int) < (q : Int)) = true := decide_eq_true (by omega)
          have e4 : decide (j < q) = true := decide_eq_true hlt2
          have ht := Aside0.mk (show gType (List.replicate q x) j = (127, true, true) by rw [gType_rep hlt2, HX.out])
          have hg := Aside0.mk (show gGet (List.replicate q x) j = (1, true) by rw [gGet_rep hlt2, HX.out])
          go_wp2_with (first
            | (go_at_call 18; (with_reducible refine (globTypeH (p := p) HW2.out (by rw [List.length_replicate]; omega) j (by unfold okI; omega) ht.out).mono ?_); rintro e w5 ⟨rfl, hs⟩; have HW3 := Aside0.mk hs; clear hs)
            | (go_at_call 20; (with_reducible refine (globGetH (p := p) HW3.out (by rw [List.length_replicate]; omega) j (by unfold okI; omega) hg.out).mono ?_); rintro e w6 ⟨rfl, hs⟩; have HW4 := Aside0.mk hs; clear hs))
          exact ⟨⟨j + 1, by simp, by omega, HW4⟩, by simp [intOf]; omega⟩
        · have e3 : decide ((j : Int) < (q : Int)) = false := decide_eq_false (by omega)
          have e4 : decide (j < q) = false := decide_eq_false hlt2
          have ht := Aside0.mk (gType_out (n := q) (x := x))
          have hal : (List.replicate q x).map S95.f2 = List.replicate q x.f2 := by simp
          obtain ⟨ls, hls⟩ : ∃ ls, List.replicate q x.f2 = ls := ⟨_, rfl⟩
          have hll : ls.length = q := by rw [← hls, List.length_replicate]
          have HAL := Aside0.mk (hal.trans hls)
          have HLL := Aside0.mk hll
          clear hal hls hll
          go_wp2_with (first
            | (go_at_call 18; (with_reducible refine (globTypeH (p := p) HW2.out (by rw [List.length_replicate]; omega) q (by unfold okI; omega) ht.out).mono ?_); rintro e w5 ⟨rfl, hs⟩; have HW3 := Aside0.mk hs; clear hs)
            | (go_at_call 22; (with_reducible refine (globAllH (p := p) HW3.out (by rw [List.length_replicate]; omega) HAL.out).mono ?_); rintro e w6 ⟨va, rfl, hs⟩; have HW4 := Aside0.mk hs; clear hs; obtain ⟨Aa, ca, rfl, _, _⟩ := HW4.out.reads; rw [HLL.out]))
          go_ret
          exact ⟨by first | rfl | simp, HW4.out.bel⟩
set_option maxRecDepth 100000 in
set_option maxHeartbeats 4000000 in
theorem types127false (v n : Int) (w : World) (hv : 0 ≤ v ∧ v < 18446744073709551616) (hf : fit 127 v = true) :
    Calls Try.prog 6 #[.int .u8 127, .bool false, .int .u64 v, .int .i64 n] w fun e w' => e = .returned (.bool true) ∧ Below w.heap.size w w' := by
  obtain ⟨k, hk, hk2⟩ := and_lowi n 255 (by decide)
  replace hk : bits .and .i64 n 255 = (k : Int) := hk
  obtain ⟨x, hx⟩ : ∃ x : S95, x = ⟨127, false, v⟩ := ⟨_, rfl⟩
  have hfv : v < 4294967296 := by unfold fit at hf; simp at hf; omega
  have HV := Aside0.mk hv
  have HF := Aside0.mk hf
  have HX := Aside0.mk hx
  obtain ⟨mk, hmk⟩ : ∃ mk : Nat, mk = min k 128 := ⟨_, rfl⟩
  have hm1 : (if 128 < k then (128 : Int) else (k : Int)) = (mk : Int) := by rw [hmk]; split <;> omega
  have hm2 : (if (128 : Int) < (k : Int) then (128 : Int) else (k : Int)) = (mk : Int) := by rw [hmk]; split <;> omega
  have HMK := Aside0.mk hmk
  clear hv hf hx hmk
  go_enter Try.func6, Try.ntmps6
  go_wp2_with (go_at_call 8; (with_reducible refine (awake _).mono ?_); rintro e w1 ⟨rfl, hb⟩; have HB := Aside0.mk hb; clear hb)
  obtain ⟨p, hp⟩ : ∃ p, w1.heap.size = p := ⟨_, rfl⟩
  have HS := Aside0.mk (((SB.start w).below HB.out).newGlobs)
  rw [hp] at HS
  go_loopw [12, 13, 14, 15] (fun v12 v13 v14 v15 wr => ∃ (i q : Nat), v12 = .int .i64 q ∧ v13 = .int .i64 i ∧ i ≤ k ∧ Aside0 (q = min i 128) ∧ Aside0 (SB w wr [GO p (List.replicate q x)])) (fun _ v13 _ _ _ => k - (intOf v13).toNat)
  case atStart => exact ⟨0, 0, rfl, rfl, Nat.zero_le _, ⟨by simp⟩, HS⟩
  case round =>
    obtain ⟨i, q, rfl, rfl, hi, HQ, HW⟩ := hrel
    rw [hp]
    by_cases hlt : i < k
    · have e1 : decide ((i : Int) < (k : Int)) = true := decide_eq_true (by omega)
      have e2 : decide (i < k) = true := decide_eq_true hlt
      by_cases h128 : i < 128
      · obtain rfl : q = i := by have := HQ.out; omega
        have ha := Aside0.mk (gAdd_rep (x := x) (m := false) h128 HF.out)
        have hs0 := Aside0.mk (show gSet (List.replicate q x ++ [⟨127, false, v⟩]) q 1 = (5, List.replicate (q + 1) x) by rw [HX.out]; exact gSet_fix)
        go_wp2_with (first
          | (go_at_call 16; (with_reducible refine (globAddH (p := p) HW.out (by rw [List.length_replicate]; omega) 127 false v (by decide) HV.out ha.out).mono ?_); rintro e w2 ⟨rfl, hs⟩; have HW2 := Aside0.mk hs; clear hs)
          | (go_at_call 19; (with_reducible refine (globSetH (p := p) HW2.out (by rw [List.length_append, List.length_replicate]; simp; omega) q 1 (by unfold okI; omega) (by decide) hs0.out).mono ?_); rintro e w3 ⟨rfl, hs⟩; have HW3 := Aside0.mk hs; clear hs))
        exact ⟨⟨q + 1, q + 1, by simp, by simp, by omega, ⟨by omega⟩, HW3⟩, by simp [intOf]; omega⟩
      · obtain rfl : q = 128 := by have := HQ.out; omega
        have ha := Aside0.mk (gAdd_full (x := x) (t := 127) (v := v) (m := false))
        have hs0 := Aside0.mk (gSet_out (n := 128) (i := i) (x := x) (v := 1) (by omega))
        go_wp2_with (first
          | (go_at_call 16; (with_reducible refine (globAddH (p := p) HW.out (by rw [List.length_replicate]; omega) 127 false v (by decide) HV.out ha.out).mono ?_); rintro e w2 ⟨rfl, hs⟩; have HW2 := Aside0.mk hs; clear hs)
          | (go_at_call 19; (with_reducible refine (globSetH (p := p) HW2.out (by rw [List.length_replicate]; omega) i 1 (by unfold okI; omega) (by decide) hs0.out).mono ?_); rintro e w3 ⟨rfl, hs⟩; have HW3 := Aside0.mk hs; clear hs))
        exact ⟨⟨i + 1, 128, rfl, by simp, by omega, ⟨by omega⟩, HW3⟩, by simp [intOf]; omega⟩
    · have e1 : decide ((i : Int) < (k : Int)) = false := decide_eq_false (by omega)
      have e2 : decide (i < k) = false := decide_eq_false hlt
      obtain rfl : q = mk := by have := HQ.out; have := HMK.out; omega
      have hq128 : q ≤ 128 := by have := HMK.out; omega
      have dv : decide (v < 4294967296) = true := decide_eq_true hfv
      go_wp2
      rename_i wq
      go_loopw [17, 18, 19, 20, 21, 22] (fun v17 v18 v19 v20 v21 v22 wr2 => ∃ j : Nat, v17 = .int .i64 j ∧ j ≤ q ∧ Aside0 (SB w wr2 [GO p (List.replicate q x)])) (fun v17 _ _ _ _ _ _ => q - (intOf v17).toNat)
      case atStart => exact ⟨0, rfl, Nat.zero_le _, HW⟩
      case round =>
        obtain ⟨j, rfl, hj, HW2⟩ := hrel
        by_cases hlt2 : j < q
        · have e3 : decide ((j : Int) < (q : Int)) = true := decide_eq_true (by omega)
          have e4 : decide (j < q) = true := decide_eq_true hlt2
          have ht := Aside0.mk (show gType (List.replicate q x) j = (127, false, true) by rw [gType_rep hlt2, HX.out])
          have hg := Aside0.mk (show gGet (List.replicate q x) j = (v, true) by rw [gGet_rep hlt2, HX.out])
          go_wp2_with (first
            | (go_at_call 18; (with_reducible refine (globTypeH (p := p) HW2.out (by rw [List.length_replicate]; omega) j (by unfold okI; omega) ht.out).mono ?_); rintro e w5 ⟨rfl, hs⟩; have HW3 := Aside0.mk hs; clear hs)
            | (go_at_call 20; (with_reducible refine (globGetH (p := p) HW3.out (by rw [List.length_replicate]; omega) j (by unfold okI; omega) hg.out).mono ?_); rintro e w6 ⟨rfl, hs⟩; have HW4 := Aside0.mk hs; clear hs))
          exact ⟨⟨j + 1, by simp, by omega, HW4⟩, by simp [intOf]; omega⟩
        · have e3 : decide ((j : Int) < (q : Int)) = false := decide_eq_false (by omega)
          have e4 : decide (j < q) = false := decide_eq_false hlt2
          have ht := Aside0.mk (gType_out (n := q) (x := x))
          have hal : (List.replicate q x).map S95.f2 = List.replicate q x.f2 := by simp
          obtain ⟨ls, hls⟩ : ∃ ls, List.replicate q x.f2 = ls := ⟨_, rfl⟩
          have hll : ls.length = q := by rw [← hls, List.length_replicate]
          have HAL := Aside0.mk (hal.trans hls)
          have HLL := Aside0.mk hll
          clear hal hls hll
          go_wp2_with (first
            | (go_at_call 18; (with_reducible refine (globTypeH (p := p) HW2.out (by rw [List.length_replicate]; omega) q (by unfold okI; omega) ht.out).mono ?_); rintro e w5 ⟨rfl, hs⟩; have HW3 := Aside0.mk hs; clear hs)
            | (go_at_call 22; (with_reducible refine (globAllH (p := p) HW3.out (by rw [List.length_replicate]; omega) HAL.out).mono ?_); rintro e w6 ⟨va, rfl, hs⟩; have HW4 := Aside0.mk hs; clear hs; obtain ⟨Aa, ca, rfl, _, _⟩ := HW4.out.reads; rw [HLL.out]))
          go_ret
          exact ⟨by first | rfl | simp, HW4.out.bel⟩
set_option maxRecDepth 100000 in
set_option maxHeartbeats 4000000 in
theorem typesNo (t : Int) (mu : Bool) (v n : Int) (w : World) (ht : 0 ≤ t ∧ t < 256) (hv : 0 ≤ v ∧ v < 18446744073709551616) (hf : fit t v = false) (h6 : t ≠ 126) (h7 : t ≠ 127) :
    Calls Try.prog 6 #[.int .u8 t, .bool mu, .int .u64 v, .int .i64 n] w fun e w' => e = .returned (.bool true) ∧ Below w.heap.size w w' := by
  obtain ⟨k, hk, hk2⟩ := and_lowi n 255 (by decide)
  replace hk : bits .and .i64 n 255 = (k : Int) := hk
  have HV := Aside0.mk hv
  have HT := Aside0.mk ht
  have HA := Aside0.mk (gAdd_no (m := mu) hf)
  have HS0 := fun i : Nat => (show gSet [] i 1 = (6, []) from if_neg (by simp))
  have HS0 := Aside0.mk HS0
  have f1 : (t == 126) = false := beq_eq_false_iff_ne.2 h6
  have f2 : (t == 127) = false := beq_eq_false_iff_ne.2 h7
  clear hv ht hf
  go_enter Try.func6, Try.ntmps6
  go_wp2_with (go_at_call 8; (with_reducible refine (awake _).mono ?_); rintro e w1 ⟨rfl, hb⟩; have HB := Aside0.mk hb; clear hb)
  obtain ⟨p, hp⟩ : ∃ p, w1.heap.size = p := ⟨_, rfl⟩
  have HS := Aside0.mk (((SB.start w).below HB.out).newGlobs)
  rw [hp] at HS
  go_loopw [12, 13, 14, 15] (fun v12 v13 v14 v15 wr => ∃ (i : Nat), v12 = .int .i64 0 ∧ v13 = .int .i64 i ∧ i ≤ k ∧ Aside0 (SB w wr [GO p []])) (fun _ v13 _ _ _ => k - (intOf v13).toNat)
  case atStart => exact ⟨0, rfl, rfl, Nat.zero_le _, HS⟩
  case round =>
    obtain ⟨i, rfl, rfl, hi, HW⟩ := hrel
    rw [hp]
    by_cases hlt : i < k
    · have e1 : decide ((i : Int) < (k : Int)) = true := decide_eq_true (by omega)
      have e2 : decide (i < k) = true := decide_eq_true hlt
      go_wp2_with (first
        | (go_at_call 16; (with_reducible refine (globAddH (p := p) HW.out (by decide) t mu v HT.out HV.out HA.out).mono ?_); rintro e w2 ⟨rfl, hs⟩; have HW2 := Aside0.mk hs; clear hs)
        | (go_at_call 19; (with_reducible refine (globSetH (p := p) HW2.out (by decide) i 1 (by unfold okI; omega) (by decide) (HS0.out i)).mono ?_); rintro e w3 ⟨rfl, hs⟩; have HW3 := Aside0.mk hs; clear hs))
      exact ⟨⟨i + 1, rfl, by simp, by omega, HW3⟩, by simp [intOf]; omega⟩
    · have e1 : decide ((i : Int) < (k : Int)) = false := decide_eq_false (by omega)
      have e2 : decide (i < k) = false := decide_eq_false hlt
      go_wp2
      go_loopw [17] (fun v17 wr2 => v17 = .int .i64 0 ∧ Aside0 (SB w wr2 [GO p []])) (fun _ _ => 0)
      case atStart => exact ⟨rfl, HW⟩
      case round =>
        obtain ⟨rfl, HW2⟩ := hrel
        go_wp2_with (first
          | (go_at_call 18; (with_reducible refine (globTypeH (p := p) HW2.out (by decide) 0 (by decide) (t := 0) (b := false) (k := false) rfl).mono ?_); rintro e w5 ⟨rfl, hs⟩; have HW3 := Aside0.mk hs; clear hs)
          | (go_at_call 22; (with_reducible refine (globAllH (p := p) HW3.out (by decide) (ys := []) rfl).mono ?_); rintro e w6 ⟨va, rfl, hs⟩; have HW4 := Aside0.mk hs; clear hs; obtain ⟨Aa, ca, rfl, _, _⟩ := HW4.out.reads))
        go_ret
        exact ⟨by first | rfl | simp, HW4.out.bel⟩
set_option maxRecDepth 100000 in
set_option maxHeartbeats 4000000 in
theorem typesBig (mu : Bool) (v n : Int) (w : World) (hv : 0 ≤ v ∧ v < 18446744073709551616) (hf : fit 127 v = false) (hbig : ¬ v < 4294967296) :
    Calls Try.prog 6 #[.int .u8 127, .bool mu, .int .u64 v, .int .i64 n] w fun e w' => e = .returned (.bool true) ∧ Below w.heap.size w w' := by
  obtain ⟨k, hk, hk2⟩ := and_lowi n 255 (by decide)
  replace hk : bits .and .i64 n 255 = (k : Int) := hk
  have HV := Aside0.mk hv
  have HA := Aside0.mk (gAdd_no (m := mu) hf)
  have HS0 := fun i : Nat => (show gSet [] i 1 = (6, []) from if_neg (by simp))
  have HS0 := Aside0.mk HS0
  have f3 : decide (v < 4294967296) = false := decide_eq_false hbig
  clear hv hf
  go_enter Try.func6, Try.ntmps6
  go_wp2_with (go_at_call 8; (with_reducible refine (awake _).mono ?_); rintro e w1 ⟨rfl, hb⟩; have HB := Aside0.mk hb; clear hb)
  obtain ⟨p, hp⟩ : ∃ p, w1.heap.size = p := ⟨_, rfl⟩
  have HS := Aside0.mk (((SB.start w).below HB.out).newGlobs)
  rw [hp] at HS
  go_loopw [12, 13, 14, 15] (fun v12 v13 v14 v15 wr => ∃ (i : Nat), v12 = .int .i64 0 ∧ v13 = .int .i64 i ∧ i ≤ k ∧ Aside0 (SB w wr [GO p []])) (fun _ v13 _ _ _ => k - (intOf v13).toNat)
  case atStart => exact ⟨0, rfl, rfl, Nat.zero_le _, HS⟩
  case round =>
    obtain ⟨i, rfl, rfl, hi, HW⟩ := hrel
    rw [hp]
    by_cases hlt : i < k
    · have e1 : decide ((i : Int) < (k : Int)) = true := decide_eq_true (by omega)
      have e2 : decide (i < k) = true := decide_eq_true hlt
      go_wp2_with (first
        | (go_at_call 16; (with_reducible refine (globAddH (p := p) HW.out (by decide) 127 mu v (by decide) HV.out HA.out).mono ?_); rintro e w2 ⟨rfl, hs⟩; have HW2 := Aside0.mk hs; clear hs)
        | (go_at_call 19; (with_reducible refine (globSetH (p := p) HW2.out (by decide) i 1 (by unfold okI; omega) (by decide) (HS0.out i)).mono ?_); rintro e w3 ⟨rfl, hs⟩; have HW3 := Aside0.mk hs; clear hs))
      exact ⟨⟨i + 1, rfl, by simp, by omega, HW3⟩, by simp [intOf]; omega⟩
    · have e1 : decide ((i : Int) < (k : Int)) = false := decide_eq_false (by omega)
      have e2 : decide (i < k) = false := decide_eq_false hlt
      go_wp2
      go_loopw [17] (fun v17 wr2 => v17 = .int .i64 0 ∧ Aside0 (SB w wr2 [GO p []])) (fun _ _ => 0)
      case atStart => exact ⟨rfl, HW⟩
      case round =>
        obtain ⟨rfl, HW2⟩ := hrel
        go_wp2_with (first
          | (go_at_call 18; (with_reducible refine (globTypeH (p := p) HW2.out (by decide) 0 (by decide) (t := 0) (b := false) (k := false) rfl).mono ?_); rintro e w5 ⟨rfl, hs⟩; have HW3 := Aside0.mk hs; clear hs)
          | (go_at_call 22; (with_reducible refine (globAllH (p := p) HW3.out (by decide) (ys := []) rfl).mono ?_); rintro e w6 ⟨va, rfl, hs⟩; have HW4 := Aside0.mk hs; clear hs; obtain ⟨Aa, ca, rfl, _, _⟩ := HW4.out.reads))
        go_ret
        exact ⟨by first | rfl | simp, HW4.out.bel⟩
theorem tableTypes (t : Int) (mu : Bool) (v n : Int) (w : World) (ht : 0 ≤ t ∧ t < 256) (hv : 0 ≤ v ∧ v < 18446744073709551616) :
    Calls Try.prog 6 #[.int .u8 t, .bool mu, .int .u64 v, .int .i64 n] w fun e w' => e = .returned (.bool true) ∧ Below w.heap.size w w' := by
  by_cases h6 : t = 126
  · subst h6
    have hf : fit 126 v = true := rfl
    cases mu with
    | true => exact types126true v n w hv hf
    | false => exact types126false v n w hv hf
  · by_cases h7 : t = 127
    · subst h7
      by_cases hb : v < 4294967296
      · have hf : fit 127 v = true := by unfold fit; simp [hb]
        cases mu with
        | true => exact types127true v n w hv hf
        | false => exact types127false v n w hv hf
      · exact typesBig mu v n w hv (by unfold fit; simp; omega) hb
    · exact typesNo t mu v n w ht hv (by unfold fit; simp [h6, h7]) h6 h7
def avocetlaw14_TableTypes.f (a0 : Int) (a1 : Bool) (a2 : Int) (a3 : Int) : Option (Bool) := if decide (0 ≤ a0) && decide (a0 < 256) && decide (0 ≤ a2) && decide (a2 < 18446744073709551616) then some true else none
theorem avocetlaw14_TableTypes.calls (a0 : Int) (a1 : Bool) (a2 : Int) (a3 : Int) (r : Bool) (w : World) (hr_ : r = true) (h : avocetlaw14_TableTypes.f a0 a1 a2 a3 = some r) :
    Calls Try.prog 6 #[.int .u8 a0, .bool a1, .int .u64 a2, .int .i64 a3] w fun e w' => e = .returned (.bool r) ∧ Below w.heap.size w w' := by
  subst hr_
  unfold avocetlaw14_TableTypes.f at h
  split at h
  · rename_i hb
    simp only [Bool.and_eq_true, decide_eq_true_eq] at hb
    exact tableTypes a0 a1 a2 a3 w ⟨hb.1.1.1, hb.1.1.2⟩ ⟨hb.1.2, hb.2⟩
  · cases h
end Go.Proofs.Ytjdnkhgpnddncaa.G

