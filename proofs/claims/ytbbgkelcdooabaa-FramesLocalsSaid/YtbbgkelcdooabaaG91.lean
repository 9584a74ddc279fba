/- FramesLocals: a local is what it was set to last. -/
import Derived.Deep.DeepMust
import Derived.Test.YtbbgkelcdooabaaFraK
import Derived.Test.YtbbgkelcdooabaaBits
namespace Go.Proofs.Ytbbgkelcdooabaa.G
open Go.RowKit Go.Proofs.YtbbgkelcdooabaaW.PrintWords Go.Proofs.YtbbgkelcdooabaaW.PrintLast Go.Proofs.YtbbgkelcdooabaaW.PrintMore
set_option linter.unusedVariables false
set_option linter.unusedSimpArgs false
def lcS (cur : List Int) : FS := ⟨[], [⟨1, 0, cur, 0⟩], 4⟩
theorem lc_enter (args : List Int) (k : Nat) : fEnter ⟨args, [], 4⟩ 1 0 (args.length : Int) (k : Int) = (lcS (args ++ List.replicate k 0), 0) := by
  unfold fEnter
  rw [if_neg (by show ¬ ((4 : Int) ≤ 0); decide), if_neg (by
    rintro (h | h)
    · omega
    · exact h ⟨by omega, by show (args.length : Int) ≤ (args.length : Int) - 0; omega⟩)]
  simp [lcS]
theorem lc_setOk (cur : List Int) (q : Nat) (y : Int) (hq : q < cur.length) : fSet (lcS cur) (q : Int) y = (lcS (cur.set q y), true) := by
  show (if 0 ≤ (q : Int) ∧ (q : Int) < (cur.length : Int) then _ else _) = _
  rw [if_pos ⟨by omega, by omega⟩]
  simp [lcS]
theorem lc_setNo (cur : List Int) (x y : Int) (hq : ¬ (0 ≤ x ∧ x < (cur.length : Int))) : fSet (lcS cur) x y = (lcS cur, false) := by
  show (if 0 ≤ x ∧ x < (cur.length : Int) then _ else _) = _
  rw [if_neg hq]
theorem lc_getOk (cur : List Int) (q : Nat) (hq : q < cur.length) : fGet (lcS cur) (q : Int) = (cur[q], true) := by
  show (if 0 ≤ (q : Int) ∧ (q : Int) < (cur.length : Int) then (cur.getD (q : Int).toNat 0, true) else (0, false)) = _
  rw [if_pos ⟨by omega, by omega⟩, Int.toNat_natCast, List.getD_eq_getElem?_getD, List.getElem?_eq_getElem hq]
  rfl
theorem lc_getNo (cur : List Int) : fGet (lcS cur) (cur.length : Int) = (0, false) := by
  show (if 0 ≤ (cur.length : Int) ∧ (cur.length : Int) < (cur.length : Int) then _ else _) = _
  rw [if_neg (by omega)]
def lcS2 (cur l2 : List Int) : FS := ⟨[], [⟨1, 0, cur, 0⟩, ⟨2, 0, l2, 0⟩], 4⟩
theorem lc_enter2 (cur : List Int) : fEnter (lcS cur) 2 0 0 3 = (lcS2 cur [0, 0, 0], 0) := rfl
theorem lc_set2 (cur : List Int) : fSet (lcS2 cur [0, 0, 0]) 0 9 = (lcS2 cur [9, 0, 0], true) := rfl
theorem lc_leave2 (cur : List Int) : fLeave (lcS2 cur [9, 0, 0]) 0 = (lcS cur, true) := by
  unfold fLeave
  rw [if_neg (by rintro (h | h); cases h; exact h ⟨by decide, by show (0 : Int) ≤ 0 - 0; decide⟩)]
  rfl
set_option maxHeartbeats 8000000 in
set_option maxRecDepth 100000 in
theorem framesLocals (A0 : Option Addr) (c0 : Nat) (args : List Int) (a1 : Int) (A2 : Option Addr) (c2 : Nat) (st : List Int) (a3 : Int) (w : World) (hC0 : Kd.C (Kd.int .u64) w A0 args.length args) (hc0 : args.length ≤ c0) (hC2 : Kd.C (Kd.int .i64) w A2 st.length st) (hc2 : st.length ≤ c2) :
    Calls Try.prog 4 #[.slice A0 args.length c0, .int .i64 a1, .slice A2 st.length c2, .int .u64 a3] w fun e w' => e = .returned (.bool true) ∧ Below w.heap.size w w' := by
  have HC0 := Aside0.mk hC0
  have HC2 := Aside0.mk hC2
  clear hC0 hC2
  by_cases hl : 20 < args.length
  · have d0 : decide (20 < args.length) = true := decide_eq_true hl
    have d0' : decide ((20 : Int) < (args.length : Int)) = true := decide_eq_true (by omega)
    go_enter Try.func4, Try.ntmps4
    go_wp2_with (go_at_call 9; (with_reducible refine (awake _).mono ?_); rintro e w1 ⟨rfl, hb⟩; have HB := Aside0.mk hb; clear hb)
    go_ret
    exact ⟨rfl, HB.out⟩
  have d0 : decide (20 < args.length) = false := decide_eq_false hl
  have d0' : decide ((20 : Int) < (args.length : Int)) = false := decide_eq_false (by omega)
  by_cases hl2 : 40 < st.length
  · have d1 : decide (40 < st.length) = true := decide_eq_true hl2
    have d1' : decide ((40 : Int) < (st.length : Int)) = true := decide_eq_true (by omega)
    go_enter Try.func4, Try.ntmps4
    go_wp2_with (go_at_call 9; (with_reducible refine (awake _).mono ?_); rintro e w1 ⟨rfl, hb⟩; have HB := Aside0.mk hb; clear hb)
    go_ret
    exact ⟨rfl, HB.out⟩
  have d1 : decide (40 < st.length) = false := decide_eq_false hl2
  have d1' : decide ((40 : Int) < (st.length : Int)) = false := decide_eq_false (by omega)
  obtain ⟨k, hk, hk7⟩ := and_lowi a1 7 (by decide)
  have hk : bits .and .i64 a1 7 = (k : Int) := hk
  have hal : args.length ≤ 20 := by omega
  have hsl : st.length ≤ 40 := by omega
  obtain ⟨n, hn⟩ : ∃ n, args.length + k = n := ⟨_, rfl⟩
  have HE := Aside0.mk (lc_enter args k)
  go_enter Try.func4, Try.ntmps4
  go_wp2_with (first
    | (go_at_call 9; (with_reducible refine (awake _).mono ?_); rintro e w1 ⟨rfl, hb⟩; have HB := Aside0.mk hb; clear hb)
    | (go_at_call 10; go_must ((with_reducible refine (frNewS ((SB.start w).below HB.out) 4).mono ?_); rintro e w2 ⟨rfl, hs⟩; obtain ⟨p, hp⟩ : ∃ p, w1.heap.size = p := ⟨_, rfl⟩; rw [hp] at hs ⊢; have HS2 := Aside0.mk (show SB w w2 [FO p ⟨[], [], 4⟩] from hs); clear hs hp))
    | (go_at_call 11; go_must ((with_reducible refine (fraPush (s := ⟨[], [], 4⟩) HS2.out A0 c0 args (Kd.C_below HC0.out HS2.out.bel) hc0 (by simp; omega)).mono ?_); rintro e w3 ⟨rfl, hs⟩; have HS3 := Aside0.mk (show SB w w3 [FO p ⟨args, [], 4⟩] from hs); clear hs))
    | (go_at_call 12; go_must ((with_reducible refine (fraEnter HS3.out (by show args.length ≤ 1000000; omega) 1 0 (args.length : Int) (k : Int) (by omega) HE.out).mono ?_); rintro e w4 ⟨rfl, hs⟩; have HS4 := Aside0.mk hs; clear hs))
    | ((with_reducible refine gate_dst (N := 43) rfl ?_); go_must (refine Kd.R_lit (Kd.int .u64) (w0 := w4) w4.heap.size 35 rfl (N := 43) rfl (xs := ([] : List Int)) (inner := []) (ok := fun _ => True) (okp := fun _ => True) (by first | (go_simp; done) | (go_simp; rfl)) (Reps.none _ _) (fun _ hk => hk) trivial (Below.refl _ _) (Nat.le_refl _) (by simp) ?_; intro v5 w5 ho5 hb hg_ hnew_; have HS5 := Aside0.mk (HS4.out.row hb ho5); clear ho5 hb hg_ hnew_))
    | ((with_reducible refine gate_builtin (b := .append) (xs := #[.tmp 43, .tmp 44]) rfl ?_); at_builtin; go_must (refine SB.appRows (ys := args) HS5.out rfl (.tmp 43) (.tmp 44) 22 (.int .u64 0) 8 rfl Try.underlying22 info35 rfl (by decide) (by decide) rfl rfl (fun _ _ h => h) (Kd.C_below HC0.out HS5.out.bel) (by simp; omega) ?_; intro v6 w6 hs6; have HS6 := Aside0.mk hs6; clear hs6))
    | ((with_reducible refine gate_builtin (b := .append) (xs := #[.tmp 45, .tmp 46]) rfl ?_); go_must (refine SB.appZeros HS6.out rfl (.tmp 45) (.tmp 46) 22 3 8 .i64 .i64 rfl Try.underlying22 Try.underlying3 info35 (by decide) k rfl rfl (by simp; omega) ?_; intro v7 w7 hs7; have HS7 := Aside0.mk hs7; clear hs7)))
  have hs7 : SB w w7 [Row (Kd.int .u64) 35 v7 (args ++ List.replicate k 0), FO p (lcS (args ++ List.replicate k 0))] := HS7.out
  have hlen0 : (args ++ List.replicate k 0).length = n := by simp; omega
  obtain ⟨A7, c7, rfl, hc7, _⟩ := hs7.reads
  obtain ⟨cur0, hcur0⟩ : ∃ cur0, args ++ List.replicate k 0 = cur0 := ⟨_, rfl⟩
  rw [hcur0] at hs7 hlen0 hc7
  have hv7 : Value.slice A7 (args ++ List.replicate k 0).length c7 = .slice A7 n c7 := by rw [hcur0, hlen0]
  simp only [hcur0, hlen0] at hs7 hc7 ⊢
  have HS7 := Aside0.mk hs7
  clear hs7 hv7 HS2 HS3 HS4 HS5 HS6 HE
  go_loopw [14, 15] (fun v14 v15 wr => ∃ (i : Nat) (cur : List Int), v14 = .int .i64 i ∧ i ≤ st.length ∧ cur.length = n ∧ Aside0 (SB w wr [Row (Kd.int .u64) 35 (.slice A7 n c7) cur, FO p (lcS cur)])) (fun v14 _ _ => st.length - (intOf v14).toNat)
  case atStart => exact ⟨0, cur0, rfl, Nat.zero_le _, hlen0, HS7⟩
  case round =>
    obtain ⟨i, cur, rfl, hi, hcl, HR⟩ := hrel
    by_cases hlt : i < st.length
    · have e1 : decide ((i : Int) < (st.length : Int)) = true := decide_eq_true (by omega)
      have e2 : decide (i < st.length) = true := decide_eq_true hlt
      obtain ⟨ad, rfl, hcell⟩ := row_cell HC2.out hlt
      obtain ⟨x, hx⟩ : ∃ x, st[i] = x := ⟨_, rfl⟩
      rw [hx] at hcell
      have hcw := pw_cell_below HR.out.bel hcell
      have hwi : IntKind.u64.wrap (i : Int) = (i : Int) := by rw [wrap_u64_]; omega
      obtain ⟨y, hy⟩ : ∃ y, IntKind.u64.wrap (a3 + (i : Int)) = y := ⟨_, rfl⟩
      by_cases hin : 0 ≤ x ∧ x < (n : Int)
      · obtain ⟨q, rfl⟩ := Int.eq_ofNat_of_zero_le hin.1
        have hq : q < cur.length := by omega
        have hset := Aside0.mk (lc_setOk cur q y hq)
        have d5 : decide ((0 : Int) ≤ (q : Int)) = true := decide_eq_true (by omega)
        have d6 : decide ((q : Int) < (n : Int)) = true := decide_eq_true (by omega)
        have d6' : decide (q < n) = true := decide_eq_true (by omega)
        go_wp2_with (go_at_call 17; go_must ((with_reducible refine (fraSet HR.out.swap q y hset.out).mono ?_); rintro e w8 ⟨rfl, hs⟩; have HR8 := Aside0.mk hs; clear hs; have hcw8 := pw_cell_below HR8.out.bel hcell; obtain ⟨g, cc, eg, hg1, hg2, hgs⟩ := HR8.out.swap.rowAt q hq; injection eg with eg1 eg2 eg3; obtain rfl := eg1; have HG := Aside0.mk (show SB w (w8.setCell ⟨g, q, none⟩ (.int .u64 y)) [Row (Kd.int .u64) 35 (.slice (some ⟨g, 0, none⟩) n c7) (cur.set q y), FO p (lcS (cur.set q y))] from by rw [eg2, eg3]; exact hgs y); clear eg2 eg3 hgs))
        exact ⟨⟨i + 1, cur.set q y, by simp, by omega, by rw [List.length_set]; exact hcl, HG⟩, by simp [intOf]; omega⟩
      · have hset := Aside0.mk (lc_setNo cur x y (by rw [hcl]; exact hin))
        by_cases hx0 : 0 ≤ x
        · have d5 : decide (0 ≤ x) = true := decide_eq_true hx0
          have d6 : decide (x < (n : Int)) = false := decide_eq_false (fun h => hin ⟨hx0, h⟩)
          go_wp2_with (go_at_call 17; go_must ((with_reducible refine (fraSet HR.out.swap x y hset.out).mono ?_); rintro e w8 ⟨rfl, hs⟩; have HR8 := Aside0.mk hs.swap; clear hs; have hcw8 := pw_cell_below HR8.out.bel hcell))
          exact ⟨⟨i + 1, cur, by simp, by omega, hcl, HR8⟩, by simp [intOf]; omega⟩
        · have d5 : decide (0 ≤ x) = false := decide_eq_false hx0
          go_wp2_with (go_at_call 17; go_must ((with_reducible refine (fraSet HR.out.swap x y hset.out).mono ?_); rintro e w8 ⟨rfl, hs⟩; have HR8 := Aside0.mk hs.swap; clear hs; have hcw8 := pw_cell_below HR8.out.bel hcell))
          exact ⟨⟨i + 1, cur, by simp, by omega, hcl, HR8⟩, by simp [intOf]; omega⟩
    · have e1 : decide ((i : Int) < (st.length : Int)) = false := decide_eq_false (by omega)
      have e2 : decide (i < st.length) = false := decide_eq_false hlt
      have f1 := Aside0.mk (lc_enter2 cur)
      have f2 := Aside0.mk (lc_set2 cur)
      have f3 := Aside0.mk (lc_leave2 cur)
      go_wp2_with (first
        | (go_at_call 12; go_must ((with_reducible refine (fraEnter HR.out.swap (by simp [lcS]) 2 0 0 3 (by decide) f1.out).mono ?_); rintro e wa ⟨rfl, hs⟩; have HA := Aside0.mk hs; clear hs))
        | (go_at_call 17; go_must ((with_reducible refine (fraSet HA.out 0 9 f2.out).mono ?_); rintro e wb ⟨rfl, hs⟩; have HBB := Aside0.mk hs; clear hs))
        | (go_at_call 14; go_must ((with_reducible refine (fraLeave HBB.out (by simp [lcS2]) 0 f3.out).mono ?_); rintro e wc ⟨rfl, hs⟩; have HCC := Aside0.mk hs; clear hs)))
      go_loopw [17, 18, 19] (fun v17 v18 v19 wr2 => ∃ (j : Nat), v17 = .int .i64 j ∧ j ≤ n ∧ Aside0 (SB w wr2 [FO p (lcS cur), Row (Kd.int .u64) 35 (.slice A7 n c7) cur])) (fun v17 _ _ _ => n - (intOf v17).toNat)
      case atStart => exact ⟨0, rfl, Nat.zero_le _, HCC⟩
      case round =>
        obtain ⟨j, rfl, hj, HR2⟩ := hrel
        by_cases hlt2 : j < n
        · have e3 : decide ((j : Int) < (n : Int)) = true := decide_eq_true (by omega)
          have e4 : decide (j < n) = true := decide_eq_true hlt2
          have hjl : j < cur.length := by omega
          have hg := Aside0.mk (lc_getOk cur j hjl)
          obtain ⟨z, hz⟩ : ∃ z, cur[j] = z := ⟨_, rfl⟩
          have HZ := Aside0.mk hz
          rw [hz] at hg
          clear hz
          go_wp2_with (go_at_call 18; go_must ((with_reducible refine (fraGet HR2.out j hg.out).mono ?_); rintro e wd ⟨rfl, hs⟩; obtain ⟨g, cc, eg, hg1, _, _⟩ := hs.swap.rowAt j hjl; injection eg with eg1 eg2 eg3; obtain rfl := eg1; rw [HZ.out] at hg1; have HR3 := Aside0.mk hs; clear hs eg2 eg3))
          exact ⟨⟨j + 1, by simp, by omega, HR3⟩, by simp [intOf]; omega⟩
        · have e3 : decide ((j : Int) < (n : Int)) = false := decide_eq_false (by omega)
          have e4 : decide (j < n) = false := decide_eq_false hlt2
          have hg := Aside0.mk (lc_getNo cur)
          rw [hcl] at hg
          go_wp2_with (go_at_call 18; go_must ((with_reducible refine (fraGet HR2.out (n : Int) hg.out).mono ?_); rintro e wd ⟨rfl, hs⟩; have HR3 := Aside0.mk hs; clear hs))
          go_ret
          exact ⟨rfl, HR3.out.bel⟩
def avocetlaw17_FramesLocals.f (l0 : List Int) (a1 : Int) (l2 : List Int) (a3 : Int) : Option (Bool) := some true
theorem avocetlaw17_FramesLocals.calls (A0 : Option Addr) (c0 : Nat) (l0 : List Int) (a1 : Int) (A2 : Option Addr) (c2 : Nat) (l2 : List Int) (a3 : Int) (r : Bool) (w : World) (hr0 : Kd.C (Kd.int .u64) w A0 l0.length l0) (hc0 : l0.length ≤ c0) (hr2 : Kd.C (Kd.int .i64) w A2 l2.length l2) (hc2 : l2.length ≤ c2) (hr_ : r = true) (h : avocetlaw17_FramesLocals.f l0 a1 l2 a3 = some r) :
    Calls Try.prog 4 #[.slice A0 l0.length c0, .int .i64 a1, .slice A2 l2.length c2, .int .u64 a3] w fun e w' => e = .returned (.bool r) ∧ Below w.heap.size w w' := by
  subst hr_
  exact framesLocals A0 c0 l0 a1 A2 c2 l2 a3 w hr0 hc0 hr2 hc2
end Go.Proofs.Ytbbgkelcdooabaa.G
