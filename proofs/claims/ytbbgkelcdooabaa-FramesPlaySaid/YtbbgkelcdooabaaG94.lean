/- FramesPlay: whatever is done, with both. -/
import Derived.Deep.DeepMust
import Derived.Test.YtbbgkelcdooabaaFraH
import Derived.Test.YtbbgkelcdooabaaFraZ
namespace Go.Proofs.Ytbbgkelcdooabaa.G
open Go.RowKit Go.Proofs.YtbbgkelcdooabaaW.PrintWords Go.Proofs.YtbbgkelcdooabaaW.PrintLast Go.Proofs.YtbbgkelcdooabaaW.PrintMore
set_option linter.unusedVariables false
set_option linter.unusedSimpArgs false
theorem SB.pick6 {w0 w : World} {A B C D E F : As} {L : List As} (h : SB w0 w (A :: B :: C :: D :: E :: F :: L)) (ix : List Nat) (hp : pickOk 6 ix = true := by kernel_rfl) : SB w0 w ((ix.map fun i => [A, B, C, D, E, F].getD i As.none) ++ L) := SB.pickL [A, B, C, D, E, F] h ix hp
def okA (x : S44) : Prop := -9223372036854775808 ≤ x.f3 ∧ x.f3 < 9223372036854775808
instance (x : S44) : Decidable (okA x) := by unfold okA; infer_instance
set_option maxHeartbeats 8000000 in
set_option maxRecDepth 100000 in
theorem framesPlay (d : Int) (l : List S44) (A0 : Option Addr) (c0 : Nat) (w : World) (hC0 : Kd.C k44 w A0 l.length l) (hc0 : l.length ≤ c0) (hok0 : ∀ x ∈ l, okA x) :
    Calls Try.prog 6 #[.int .i64 d, .slice A0 l.length c0] w fun e w' => e = .returned (.bool true) ∧ Below w.heap.size w w' := by
  have HC0 := Aside0.mk hC0
  have HOK0 := Aside0.mk hok0
  clear hC0 hok0
  obtain ⟨sm, hsm⟩ : ∃ sm, smallB l = sm := ⟨_, rfl⟩
  have HSM := Aside0.mk hsm
  clear hsm
  cases sm with
  | false =>
    go_enter Try.func6, Try.ntmps6
    go_wp2_with (first
      | (go_at_call 9; (with_reducible refine (awake _).mono ?_); rintro e w1 ⟨rfl, hb⟩; have HB := Aside0.mk ((SB.start w).below hb); clear hb)
      | (go_at_call 19; (with_reducible refine (frSmall HB.out A0 c0 l (Kd.C_below HC0.out HB.out.bel) hc0).mono ?_); rintro e w2 ⟨rfl, hs⟩; rw [HSM.out]; have HB2 := Aside0.mk hs; clear hs))
    go_ret
    exact ⟨rfl, HB2.out.bel⟩
  | true =>
  have hll := (smallB_iff HSM.out).1
  obtain ⟨r, hr⟩ : ∃ r, max 0 (min d 64) = r := ⟨_, rfl⟩
  have hr64 : r ≤ 64 := by omega
  go_enter Try.func6, Try.ntmps6
  go_wp2_with (first
    | (go_at_call 9; (with_reducible refine (awake _).mono ?_); rintro e w1 ⟨rfl, hb⟩; have HB := Aside0.mk ((SB.start w).below hb); clear hb)
    | (go_at_call 19; (with_reducible refine (frSmall HB.out A0 c0 l (Kd.C_below HC0.out HB.out.bel) hc0).mono ?_); rintro e w2 ⟨rfl, hs⟩; rw [HSM.out]; have HB2 := Aside0.mk hs; clear hs)
    | (go_at_call 10; go_must ((with_reducible refine (frNewS HB2.out d).mono ?_); rintro e w3 ⟨rfl, hs⟩; rw [hr] at hs; obtain ⟨p, hp⟩ : ∃ p, w2.heap.size = p := ⟨_, rfl⟩; rw [hp] at hs ⊢; have HS3 := Aside0.mk (show SB w w3 [FO p ⟨[], [], r⟩] from hs); clear hs hp))
    | (go_at_call 25; go_must ((with_reducible refine (xNew HS3.out d).mono ?_); rintro e w4 ⟨rfl, hs⟩; rw [hr] at hs; obtain ⟨g, hg⟩ : ∃ g, w3.heap.size = g := ⟨_, rfl⟩; rw [hg] at hs ⊢; have HS4 := Aside0.mk (show SB w w4 [FO p ⟨[], [], r⟩, XO g ⟨[], [], r⟩] from hs.swap); clear hs hg)))
  go_loopw [8, 9, 10, 11, 12] (fun v8 v9 v10 v11 v12 wr => ∃ (i : Nat) (s : FS), v8 = .int .i64 i ∧ i ≤ l.length ∧ Aside0 (Inv s (40 * i) ∧ s.room = r) ∧ Aside0 (SB w wr [FO p s, XO g s])) (fun v8 _ _ _ _ _ => l.length - (intOf v8).toNat)
  case atStart => exact ⟨0, ⟨[], [], r⟩, rfl, Nat.zero_le _, ⟨inv_new r, rfl⟩, HS4⟩
  case round =>
    obtain ⟨i, s, rfl, hi, HI, HR⟩ := hrel
    by_cases hlt : i < l.length
    · have e1 : decide ((i : Int) < (l.length : Int)) = true := decide_eq_true (by omega)
      have e2 : decide (i < l.length) = true := decide_eq_true hlt
      obtain ⟨x, hx⟩ : ∃ x, l[i] = x := ⟨_, rfl⟩
      have hxm : x ∈ l := by rw [← hx]; exact List.getElem_mem _
      have HX := Aside0.mk (And.intro (show -9223372036854775808 ≤ x.f3 ∧ x.f3 < 9223372036854775808 from HOK0.out x hxm) ((smallB_iff HSM.out).2 x hxm))
      have hat := at_T44 HC0.out (i : Int) (by omega) (by omega)
      rw [rd44 hlt, hx, Int.toNat_natCast] at hat
      obtain ⟨ad, A8, c8, rfl, q0, q1, q2, q3, q4, q5, q6, l8, g8⟩ := hat
      have HQ := Aside0.mk (And.intro q0 (And.intro q1 (And.intro q2 (And.intro q3 (And.intro q4 (And.intro q5 q6))))))
      have HG := Aside0.mk g8
      have hF : s.fr.length ≤ 64 := by have := HI.out.1.fl; rw [HI.out.2] at this; omega
      have HDF := Aside0.mk HR.out.drew
      have hd := inv_do HI.out.1 x HX.out.2.2
      obtain ⟨s', hs'⟩ : ∃ s', (fDo s x).1 = s' := ⟨_, rfl⟩
      have HBO := Aside0.mk (fun (W : World) (h : SB w W [FO p s, XO g s]) => (by
        have := frBoth h HI.out.1 (by omega) hF x A8 c8 HG.out l8 (by have := HX.out.2.1; omega) (Int.le_trans HX.out.2.2 (by decide)) HX.out.1
        rw [hs'] at this
        exact this))
      rw [hs'] at hd
      have HI2 := Aside0.mk (And.intro (hd.1.up (B' := 40 * (i + 1)) (by have := HX.out.2.1; omega)) (hd.2.1.trans HI.out.2))
      obtain ⟨vl, hvl⟩ : ∃ k, s'.v.length = k := ⟨_, rfl⟩
      obtain ⟨fl, hfl⟩ : ∃ k, s'.fr.length = k := ⟨_, rfl⟩
      have hvl8 : vl ≤ 8000 := by rw [← hvl]; have := HI2.out.1.vl; omega
      have hfl2 : fl ≤ 64 := by have := HI2.out.1.fl; rw [HI2.out.2] at this; rw [← hfl]; omega
      have HLoc2 := Aside0.mk (show ∀ f ∈ s'.fr, f.loc.length ≤ 1000000 from fun f hf => by have := HI2.out.1.loc f hf; omega)
      have HM2 := Aside0.mk (show ∀ x ∈ (s'.fr.map fmS).map th, x.f2.length ≤ 1000000 from fun x hx => by
        obtain ⟨y, hy, rfl⟩ := List.mem_map.1 hx
        obtain ⟨f, hf, rfl⟩ := List.mem_map.1 hy
        exact HLoc2.out f hf)
      have hF2 : s'.fr.length ≤ 64 := by rw [hfl]; exact hfl2
      obtain ⟨y, tb, hty⟩ : ∃ y tb, fTop s' = (y, tb) := ⟨_, _, rfl⟩
      have hyl : y.loc.length ≤ 1000000 := by have := fTop_loc HLoc2.out; rw [hty] at this; exact this
      have HTY := Aside0.mk hty
      obtain ⟨ly, hly⟩ : ∃ k, y.loc.length = k := ⟨_, rfl⟩
      have HLY := Aside0.mk hly
      have HM1 := Aside0.mk (show ∀ x ∈ [fmT y], x.f2.length ≤ 1000000 from fun x hx => by rw [List.mem_singleton.1 hx]; exact hyl)
      have HVL := Aside0.mk hvl
      have HFL := Aside0.mk hfl
      clear hty hyl hly
      have HFL2 := Aside0.mk (show (s'.fr.map fmS).length = fl by rw [List.length_map, hfl])
      clear hxm hx g8 q0 q1 q2 q3 q4 q5 q6 hs' hd hvl hfl
      go_wp2
      refine rg_startL (n := 39) (S := fun w' => Below w.heap.size w w') (bm 39 0) (by kernel_rfl) rfl (by kernel_rfl) (HDF.out.bel) (fun wd hwd hHeld => ?_)
      refine rg_take (i := 0) (N := some 28) (v := ?_) (a' := ?_) (bm 39 1) rfl rfl (by kernel_rfl) (fun _ _ _ h => h) hHeld (Or.inl ⟨by rfl, ?_⟩) ?_ ?_
      rotate_left
      · intro w' hw'
        have hbw : Below w.heap.size w w' := by first | exact hw' | exact hw'.1
        have s0 := pw_cell_below hbw HQ.out.1
        have s1 := pw_cell_below hbw HQ.out.2.1
        have s2 := pw_cell_below hbw HQ.out.2.2.1
        have s3 := pw_cell_below hbw HQ.out.2.2.2.1
        have s4 := pw_cell_below hbw HQ.out.2.2.2.2.1
        have s5 := pw_cell_below hbw HQ.out.2.2.2.2.2.1
        have s6 := pw_cell_below hbw HQ.out.2.2.2.2.2.2
        go_simp
        with_reducible rfl
      rotate_left
      · simp only [Act.put, List.setIfInBounds_toArray, List.set_cons_zero, List.set_cons_succ]
        rfl
      refine rg_take (i := 1) (N := some 29) (v := ?_) (a' := ?_) (bm 39 3) rfl rfl (by kernel_rfl) (fun _ _ _ h => h) hHeld (Or.inl ⟨by rfl, ?_⟩) ?_ ?_
      rotate_left
      · intro w' hw'
        have hbw : Below w.heap.size w w' := by first | exact hw' | exact hw'.1
        have s0 := pw_cell_below hbw HQ.out.1
        have s1 := pw_cell_below hbw HQ.out.2.1
        have s2 := pw_cell_below hbw HQ.out.2.2.1
        have s3 := pw_cell_below hbw HQ.out.2.2.2.1
        have s4 := pw_cell_below hbw HQ.out.2.2.2.2.1
        have s5 := pw_cell_below hbw HQ.out.2.2.2.2.2.1
        have s6 := pw_cell_below hbw HQ.out.2.2.2.2.2.2
        go_simp
        with_reducible rfl
      rotate_left
      · simp only [Act.put, List.setIfInBounds_toArray, List.set_cons_zero, List.set_cons_succ]
        rfl
      refine rg_take (i := 2) (N := some 30) (v := ?_) (a' := ?_) (bm 39 7) rfl rfl (by kernel_rfl) (fun _ _ _ h => h) hHeld (Or.inl ⟨by rfl, ?_⟩) ?_ ?_
      rotate_left
      · intro w' hw'
        have hbw : Below w.heap.size w w' := by first | exact hw' | exact hw'.1
        have s0 := pw_cell_below hbw HQ.out.1
        have s1 := pw_cell_below hbw HQ.out.2.1
        have s2 := pw_cell_below hbw HQ.out.2.2.1
        have s3 := pw_cell_below hbw HQ.out.2.2.2.1
        have s4 := pw_cell_below hbw HQ.out.2.2.2.2.1
        have s5 := pw_cell_below hbw HQ.out.2.2.2.2.2.1
        have s6 := pw_cell_below hbw HQ.out.2.2.2.2.2.2
        go_simp
        with_reducible rfl
      rotate_left
      · simp only [Act.put, List.setIfInBounds_toArray, List.set_cons_zero, List.set_cons_succ]
        rfl
      refine rg_take (i := 3) (N := some 31) (v := ?_) (a' := ?_) (bm 39 15) rfl rfl (by kernel_rfl) (fun _ _ _ h => h) hHeld (Or.inl ⟨by rfl, ?_⟩) ?_ ?_
      rotate_left
      · intro w' hw'
        have hbw : Below w.heap.size w w' := by first | exact hw' | exact hw'.1
        have s0 := pw_cell_below hbw HQ.out.1
        have s1 := pw_cell_below hbw HQ.out.2.1
        have s2 := pw_cell_below hbw HQ.out.2.2.1
        have s3 := pw_cell_below hbw HQ.out.2.2.2.1
        have s4 := pw_cell_below hbw HQ.out.2.2.2.2.1
        have s5 := pw_cell_below hbw HQ.out.2.2.2.2.2.1
        have s6 := pw_cell_below hbw HQ.out.2.2.2.2.2.2
        go_simp
        with_reducible rfl
      rotate_left
      · simp only [Act.put, List.setIfInBounds_toArray, List.set_cons_zero, List.set_cons_succ]
        rfl
      refine rg_take (i := 4) (N := some 32) (v := ?_) (a' := ?_) (bm 39 31) rfl rfl (by kernel_rfl) (fun _ _ _ h => h) hHeld (Or.inl ⟨by rfl, ?_⟩) ?_ ?_
      rotate_left
      · intro w' hw'
        have hbw : Below w.heap.size w w' := by first | exact hw' | exact hw'.1
        have s0 := pw_cell_below hbw HQ.out.1
        have s1 := pw_cell_below hbw HQ.out.2.1
        have s2 := pw_cell_below hbw HQ.out.2.2.1
        have s3 := pw_cell_below hbw HQ.out.2.2.2.1
        have s4 := pw_cell_below hbw HQ.out.2.2.2.2.1
        have s5 := pw_cell_below hbw HQ.out.2.2.2.2.2.1
        have s6 := pw_cell_below hbw HQ.out.2.2.2.2.2.2
        go_simp
        with_reducible rfl
      rotate_left
      · simp only [Act.put, List.setIfInBounds_toArray, List.set_cons_zero, List.set_cons_succ]
        rfl
      refine rg_take (i := 5) (N := some 33) (v := ?_) (a' := ?_) (bm 39 63) rfl rfl (by kernel_rfl) (fun _ _ _ h => h) hHeld (Or.inl ⟨by rfl, ?_⟩) ?_ ?_
      rotate_left
      · intro w' hw'
        have hbw : Below w.heap.size w w' := by first | exact hw' | exact hw'.1
        have s0 := pw_cell_below hbw HQ.out.1
        have s1 := pw_cell_below hbw HQ.out.2.1
        have s2 := pw_cell_below hbw HQ.out.2.2.1
        have s3 := pw_cell_below hbw HQ.out.2.2.2.1
        have s4 := pw_cell_below hbw HQ.out.2.2.2.2.1
        have s5 := pw_cell_below hbw HQ.out.2.2.2.2.2.1
        have s6 := pw_cell_below hbw HQ.out.2.2.2.2.2.2
        go_simp
        with_reducible rfl
      rotate_left
      · simp only [Act.put, List.setIfInBounds_toArray, List.set_cons_zero, List.set_cons_succ]
        rfl
      refine rg_ready [6] (by kernel_rfl) (by simp) ?_
      refine rg_one (i := 6) (N := some 34) (bm 39 127) rfl rfl (by kernel_rfl) (fun K hK => ?_) rg_nil
      have HD := Aside0.mk (hwd.out ▸ HDF.out)
      go_simp
      go_at_call 26
      with_reducible refine (HBO.out _ HD.out).mono ?_
      rintro e wx6r9 ⟨rfl, hs⟩
      obtain ⟨V, VF, z, hz, h1⟩ := hs.swap.xopen
      obtain ⟨A5, c5, rfl, hc5, _⟩ := (h1.pick2 [1]).reads
      obtain ⟨Af, cf, rfl, hcf, _⟩ := (h1.pick3 [2]).reads
      have hzl : (z.map fm4).length = fl := by rw [List.length_map, ← HFL.out, ← hz, List.length_map]
      rw [HVL.out] at h1 hc5
      rw [hzl] at h1 hcf
      have hb1 := h1.blk
      have hnew : Below w.heap.size w wx6r9 ∧ wx6r9.cell? ⟨g, 0, none⟩ = some (.slice A5 vl c5) ∧ wx6r9.cell? ⟨g, 1, none⟩ = some (.slice Af fl cf) := ⟨h1.bel, blk_cell hb1 0, blk_cell hb1 1⟩
      have himp : ∀ W : World, (Below w.heap.size w W ∧ W.cell? ⟨g, 0, none⟩ = some (.slice A5 vl c5) ∧ W.cell? ⟨g, 1, none⟩ = some (.slice Af fl cf)) → Below w.heap.size w W := fun W h => h.1
      have HZ := Aside0.mk hz
      have HD6 := Aside0.mk (h1.pick5 [4, 0, 1, 2, 3])
      clear hs h1 hb1 hz hzl
      go_wp2_with fail
      refine hK.out _ _ (himp _ hnew) ?_
      clear hK K
      refine rg_norm (a' := ?_) ?_ ?_
      rotate_left
      · simp only [Act.put, List.setIfInBounds_toArray, List.set_cons_zero, List.set_cons_succ]
        rfl
      refine rg_imp himp ?_
      clear himp
      clear hHeld
      have hHeld := hnew
      clear hnew
      refine rg_take (i := 7) (N := some 35) (v := ?_) (a' := ?_) (bm 39 255) rfl rfl (by kernel_rfl) (fun _ _ _ h => h) hHeld (Or.inl ⟨by rfl, ?_⟩) ?_ ?_
      rotate_left
      · intro w' hw'
        have hbw : Below w.heap.size w w' := by first | exact hw' | exact hw'.1
        have s0 := pw_cell_below hbw HQ.out.1
        have s1 := pw_cell_below hbw HQ.out.2.1
        have s2 := pw_cell_below hbw HQ.out.2.2.1
        have s3 := pw_cell_below hbw HQ.out.2.2.2.1
        have s4 := pw_cell_below hbw HQ.out.2.2.2.2.1
        have s5 := pw_cell_below hbw HQ.out.2.2.2.2.2.1
        have s6 := pw_cell_below hbw HQ.out.2.2.2.2.2.2
        go_simp
        with_reducible rfl
      rotate_left
      · simp only [Act.put, List.setIfInBounds_toArray, List.set_cons_zero, List.set_cons_succ]
        rfl
      refine rg_take (i := 8) (N := some 36) (v := ?_) (a' := ?_) (bm 39 511) rfl rfl (by kernel_rfl) (fun _ _ _ h => h) hHeld (Or.inl ⟨by rfl, ?_⟩) ?_ ?_
      rotate_left
      · intro w' hw'
        have hbw : Below w.heap.size w w' := by first | exact hw' | exact hw'.1
        have s0 := pw_cell_below hbw HQ.out.1
        have s1 := pw_cell_below hbw HQ.out.2.1
        have s2 := pw_cell_below hbw HQ.out.2.2.1
        have s3 := pw_cell_below hbw HQ.out.2.2.2.1
        have s4 := pw_cell_below hbw HQ.out.2.2.2.2.1
        have s5 := pw_cell_below hbw HQ.out.2.2.2.2.2.1
        have s6 := pw_cell_below hbw HQ.out.2.2.2.2.2.2
        go_simp
        with_reducible rfl
      rotate_left
      · simp only [Act.put, List.setIfInBounds_toArray, List.set_cons_zero, List.set_cons_succ]
        rfl
      refine rg_take (i := 9) (N := some 37) (v := ?_) (a' := ?_) (bm 39 1023) rfl rfl (by kernel_rfl) (fun _ _ _ h => h) hHeld (Or.inl ⟨by rfl, ?_⟩) ?_ ?_
      rotate_left
      · intro w' hw'
        have hbw : Below w.heap.size w w' := by first | exact hw' | exact hw'.1
        have s0 := pw_cell_below hbw HQ.out.1
        have s1 := pw_cell_below hbw HQ.out.2.1
        have s2 := pw_cell_below hbw HQ.out.2.2.1
        have s3 := pw_cell_below hbw HQ.out.2.2.2.1
        have s4 := pw_cell_below hbw HQ.out.2.2.2.2.1
        have s5 := pw_cell_below hbw HQ.out.2.2.2.2.2.1
        have s6 := pw_cell_below hbw HQ.out.2.2.2.2.2.2
        go_simp
        with_reducible rfl
      rotate_left
      · simp only [Act.put, List.setIfInBounds_toArray, List.set_cons_zero, List.set_cons_succ]
        rfl
      refine rg_take (i := 11) (N := some 39) (v := ?_) (a' := ?_) (bm 39 3071) rfl rfl (by kernel_rfl) (fun _ _ _ h => h) hHeld (Or.inl ⟨by rfl, ?_⟩) ?_ ?_
      rotate_left
      · intro w' hw'
        have hbw : Below w.heap.size w w' := by first | exact hw' | exact hw'.1
        have s0 := pw_cell_below hbw HQ.out.1
        have s1 := pw_cell_below hbw HQ.out.2.1
        have s2 := pw_cell_below hbw HQ.out.2.2.1
        have s3 := pw_cell_below hbw HQ.out.2.2.2.1
        have s4 := pw_cell_below hbw HQ.out.2.2.2.2.1
        have s5 := pw_cell_below hbw HQ.out.2.2.2.2.2.1
        have s6 := pw_cell_below hbw HQ.out.2.2.2.2.2.2
        go_simp
        with_reducible rfl
      rotate_left
      · simp only [Act.put, List.setIfInBounds_toArray, List.set_cons_zero, List.set_cons_succ]
        rfl
      refine rg_take (i := 12) (N := some 40) (v := ?_) (a' := ?_) (bm 39 7167) rfl rfl (by kernel_rfl) (fun _ _ _ h => h) hHeld (Or.inl ⟨by rfl, ?_⟩) ?_ ?_
      rotate_left
      · intro w' hw'
        have hbw : Below w.heap.size w w' := by first | exact hw' | exact hw'.1
        have s0 := pw_cell_below hbw HQ.out.1
        have s1 := pw_cell_below hbw HQ.out.2.1
        have s2 := pw_cell_below hbw HQ.out.2.2.1
        have s3 := pw_cell_below hbw HQ.out.2.2.2.1
        have s4 := pw_cell_below hbw HQ.out.2.2.2.2.1
        have s5 := pw_cell_below hbw HQ.out.2.2.2.2.2.1
        have s6 := pw_cell_below hbw HQ.out.2.2.2.2.2.2
        go_simp
        with_reducible rfl
      rotate_left
      · simp only [Act.put, List.setIfInBounds_toArray, List.set_cons_zero, List.set_cons_succ]
        rfl
      refine rg_take (i := 13) (N := some 41) (v := ?_) (a' := ?_) (bm 39 15359) rfl rfl (by kernel_rfl) (fun _ _ _ h => h) hHeld (Or.inl ⟨by rfl, ?_⟩) ?_ ?_
      rotate_left
      · intro w' hw'
        have hbw : Below w.heap.size w w' := by first | exact hw' | exact hw'.1
        have s0 := pw_cell_below hbw HQ.out.1
        have s1 := pw_cell_below hbw HQ.out.2.1
        have s2 := pw_cell_below hbw HQ.out.2.2.1
        have s3 := pw_cell_below hbw HQ.out.2.2.2.1
        have s4 := pw_cell_below hbw HQ.out.2.2.2.2.1
        have s5 := pw_cell_below hbw HQ.out.2.2.2.2.2.1
        have s6 := pw_cell_below hbw HQ.out.2.2.2.2.2.2
        go_simp
        with_reducible rfl
      rotate_left
      · simp only [Act.put, List.setIfInBounds_toArray, List.set_cons_zero, List.set_cons_succ]
        rfl
      refine rg_take (i := 14) (N := some 42) (v := ?_) (a' := ?_) (bm 39 31743) rfl rfl (by kernel_rfl) (fun _ _ _ h => h) hHeld (Or.inl ⟨by rfl, ?_⟩) ?_ ?_
      rotate_left
      · intro w' hw'
        have t0 := hw'.2.1
        go_simp
        with_reducible rfl
      rotate_left
      · simp only [Act.put, List.setIfInBounds_toArray, List.set_cons_zero, List.set_cons_succ]
        rfl
      refine rg_ready [10] (by kernel_rfl) (by simp) ?_
      refine rg_one (i := 10) (N := some 38) (bm 39 32767) rfl rfl (by kernel_rfl) (fun K hK => ?_) rg_nil
      go_simp
      go_at_call 16
      with_reducible refine (frVals (p := p) HD6.out (by rw [HVL.out]; omega)).mono ?_
      rintro e wx6x10r9 ⟨v10, rfl, hs⟩
      obtain ⟨A10, c10, rfl, hc10, _⟩ := hs.reads
      rw [HVL.out] at hs hc10 ⊢
      have hb1 := (hs.pick3 [2]).blk
      have hnew := And.intro hs.bel (And.intro (blk_cell hb1 0) (blk_cell hb1 1))
      have HD10 := Aside0.mk hs
      clear hs hb1
      go_wp2_with fail
      refine hK.out _ _ hnew ?_
      clear hK K
      refine rg_norm (a' := ?_) ?_ ?_
      rotate_left
      · simp only [Act.put, List.setIfInBounds_toArray, List.set_cons_zero, List.set_cons_succ]
        rfl
      clear hHeld
      have hHeld := hnew
      clear hnew
      refine rg_ready [15] (by kernel_rfl) (by simp) ?_
      refine rg_one (i := 15) (N := some 43) (bm 39 65535) rfl rfl (by kernel_rfl) (fun K hK => ?_) rg_nil
      obtain ⟨Aa, ca, ea, _, hCa⟩ := HD10.out.reads
      obtain ⟨Ab, cb, eb, _, hCb⟩ := (HD10.out.pick4 [3]).reads
      injection ea with ea1 ea2 ea3
      injection eb with eb1 eb2 eb3
      clear ea2 ea3 eb2 eb3
      subst ea1 eb1
      rw [HVL.out] at hCa hCb
      have HCa := Aside0.mk hCa
      have HCb := Aside0.mk hCb
      clear hCa hCb
      go_simp
      go_at_call 15
      with_reducible refine (frWords HD10.out A10 A5 vl c10 c5 s'.v HVL.out HCa.out hc10 HCb.out hc5 (by omega)).mono ?_
      rintro e wx6x10x15r9 ⟨rfl, hs⟩
      have hb1 := (hs.pick3 [2]).blk
      have hnew := And.intro hs.bel (And.intro (blk_cell hb1 0) (blk_cell hb1 1))
      have HD15 := Aside0.mk hs.drop
      clear hs hb1
      go_wp2_with fail
      refine hK.out _ _ hnew ?_
      clear hK K
      refine rg_norm (a' := ?_) ?_ ?_
      rotate_left
      · simp only [Act.put, List.setIfInBounds_toArray, List.set_cons_zero, List.set_cons_succ]
        rfl
      clear hHeld
      have hHeld := hnew
      clear hnew
      refine rg_take (i := 16) (N := some 44) (v := ?_) (a' := ?_) (bm 39 131071) rfl rfl (by kernel_rfl) (fun _ _ _ h => h) hHeld (Or.inl ⟨by rfl, ?_⟩) ?_ ?_
      rotate_left
      · intro w' hw'
        have hbw : Below w.heap.size w w' := by first | exact hw' | exact hw'.1
        have s0 := pw_cell_below hbw HQ.out.1
        have s1 := pw_cell_below hbw HQ.out.2.1
        have s2 := pw_cell_below hbw HQ.out.2.2.1
        have s3 := pw_cell_below hbw HQ.out.2.2.2.1
        have s4 := pw_cell_below hbw HQ.out.2.2.2.2.1
        have s5 := pw_cell_below hbw HQ.out.2.2.2.2.2.1
        have s6 := pw_cell_below hbw HQ.out.2.2.2.2.2.2
        go_simp
        with_reducible rfl
      rotate_left
      · simp only [Act.put, List.setIfInBounds_toArray, List.set_cons_zero, List.set_cons_succ]
        rfl
      refine rg_take (i := 17) (N := some 45) (v := ?_) (a' := ?_) (bm 39 262143) rfl rfl (by kernel_rfl) (fun _ _ _ h => h) hHeld (Or.inl ⟨by rfl, ?_⟩) ?_ ?_
      rotate_left
      · intro w' hw'
        have hbw : Below w.heap.size w w' := by first | exact hw' | exact hw'.1
        have s0 := pw_cell_below hbw HQ.out.1
        have s1 := pw_cell_below hbw HQ.out.2.1
        have s2 := pw_cell_below hbw HQ.out.2.2.1
        have s3 := pw_cell_below hbw HQ.out.2.2.2.1
        have s4 := pw_cell_below hbw HQ.out.2.2.2.2.1
        have s5 := pw_cell_below hbw HQ.out.2.2.2.2.2.1
        have s6 := pw_cell_below hbw HQ.out.2.2.2.2.2.2
        go_simp
        with_reducible rfl
      rotate_left
      · simp only [Act.put, List.setIfInBounds_toArray, List.set_cons_zero, List.set_cons_succ]
        rfl
      refine rg_take (i := 18) (N := some 46) (v := ?_) (a' := ?_) (bm 39 524287) rfl rfl (by kernel_rfl) (fun _ _ _ h => h) hHeld (Or.inl ⟨by rfl, ?_⟩) ?_ ?_
      rotate_left
      · intro w' hw'
        have hbw : Below w.heap.size w w' := by first | exact hw' | exact hw'.1
        have s0 := pw_cell_below hbw HQ.out.1
        have s1 := pw_cell_below hbw HQ.out.2.1
        have s2 := pw_cell_below hbw HQ.out.2.2.1
        have s3 := pw_cell_below hbw HQ.out.2.2.2.1
        have s4 := pw_cell_below hbw HQ.out.2.2.2.2.1
        have s5 := pw_cell_below hbw HQ.out.2.2.2.2.2.1
        have s6 := pw_cell_below hbw HQ.out.2.2.2.2.2.2
        go_simp
        with_reducible rfl
      rotate_left
      · simp only [Act.put, List.setIfInBounds_toArray, List.set_cons_zero, List.set_cons_succ]
        rfl
      refine rg_take (i := 19) (N := some 47) (v := ?_) (a' := ?_) (bm 39 1048575) rfl rfl (by kernel_rfl) (fun _ _ _ h => h) hHeld (Or.inl ⟨by rfl, ?_⟩) ?_ ?_
      rotate_left
      · intro w' hw'
        have hbw : Below w.heap.size w w' := by first | exact hw' | exact hw'.1
        have s0 := pw_cell_below hbw HQ.out.1
        have s1 := pw_cell_below hbw HQ.out.2.1
        have s2 := pw_cell_below hbw HQ.out.2.2.1
        have s3 := pw_cell_below hbw HQ.out.2.2.2.1
        have s4 := pw_cell_below hbw HQ.out.2.2.2.2.1
        have s5 := pw_cell_below hbw HQ.out.2.2.2.2.2.1
        have s6 := pw_cell_below hbw HQ.out.2.2.2.2.2.2
        go_simp
        with_reducible rfl
      rotate_left
      · simp only [Act.put, List.setIfInBounds_toArray, List.set_cons_zero, List.set_cons_succ]
        rfl
      refine rg_take (i := 22) (N := some 50) (v := ?_) (a' := ?_) (bm 39 5242879) rfl rfl (by kernel_rfl) (fun _ _ _ h => h) hHeld (Or.inl ⟨by rfl, ?_⟩) ?_ ?_
      rotate_left
      · intro w' hw'
        have hbw : Below w.heap.size w w' := by first | exact hw' | exact hw'.1
        have s0 := pw_cell_below hbw HQ.out.1
        have s1 := pw_cell_below hbw HQ.out.2.1
        have s2 := pw_cell_below hbw HQ.out.2.2.1
        have s3 := pw_cell_below hbw HQ.out.2.2.2.1
        have s4 := pw_cell_below hbw HQ.out.2.2.2.2.1
        have s5 := pw_cell_below hbw HQ.out.2.2.2.2.2.1
        have s6 := pw_cell_below hbw HQ.out.2.2.2.2.2.2
        go_simp
        with_reducible rfl
      rotate_left
      · simp only [Act.put, List.setIfInBounds_toArray, List.set_cons_zero, List.set_cons_succ]
        rfl
      refine rg_take (i := 23) (N := some 51) (v := ?_) (a' := ?_) (bm 39 13631487) rfl rfl (by kernel_rfl) (fun _ _ _ h => h) hHeld (Or.inl ⟨by rfl, ?_⟩) ?_ ?_
      rotate_left
      · intro w' hw'
        have hbw : Below w.heap.size w w' := by first | exact hw' | exact hw'.1
        have s0 := pw_cell_below hbw HQ.out.1
        have s1 := pw_cell_below hbw HQ.out.2.1
        have s2 := pw_cell_below hbw HQ.out.2.2.1
        have s3 := pw_cell_below hbw HQ.out.2.2.2.1
        have s4 := pw_cell_below hbw HQ.out.2.2.2.2.1
        have s5 := pw_cell_below hbw HQ.out.2.2.2.2.2.1
        have s6 := pw_cell_below hbw HQ.out.2.2.2.2.2.2
        go_simp
        with_reducible rfl
      rotate_left
      · simp only [Act.put, List.setIfInBounds_toArray, List.set_cons_zero, List.set_cons_succ]
        rfl
      refine rg_take (i := 24) (N := some 52) (v := ?_) (a' := ?_) (bm 39 30408703) rfl rfl (by kernel_rfl) (fun _ _ _ h => h) hHeld (Or.inl ⟨by rfl, ?_⟩) ?_ ?_
      rotate_left
      · intro w' hw'
        have hbw : Below w.heap.size w w' := by first | exact hw' | exact hw'.1
        have s0 := pw_cell_below hbw HQ.out.1
        have s1 := pw_cell_below hbw HQ.out.2.1
        have s2 := pw_cell_below hbw HQ.out.2.2.1
        have s3 := pw_cell_below hbw HQ.out.2.2.2.1
        have s4 := pw_cell_below hbw HQ.out.2.2.2.2.1
        have s5 := pw_cell_below hbw HQ.out.2.2.2.2.2.1
        have s6 := pw_cell_below hbw HQ.out.2.2.2.2.2.2
        go_simp
        with_reducible rfl
      rotate_left
      · simp only [Act.put, List.setIfInBounds_toArray, List.set_cons_zero, List.set_cons_succ]
        rfl
      refine rg_take (i := 25) (N := some 53) (v := ?_) (a' := ?_) (bm 39 63963135) rfl rfl (by kernel_rfl) (fun _ _ _ h => h) hHeld (Or.inl ⟨by rfl, ?_⟩) ?_ ?_
      rotate_left
      · intro w' hw'
        have t1 := hw'.2.2
        go_simp
        with_reducible rfl
      rotate_left
      · simp only [Act.put, List.setIfInBounds_toArray, List.set_cons_zero, List.set_cons_succ]
        rfl
      refine rg_ready [20] (by kernel_rfl) (by simp) ?_
      refine rg_one (i := 20) (N := some 48) (bm 39 65011711) rfl rfl (by kernel_rfl) (fun K hK => ?_) rg_nil
      go_simp
      go_at_call 21
      with_reducible refine (frFrames (p := p) HD15.out HLoc2.out).mono ?_
      rintro e wx6x10x15x20r9 ⟨v20, rfl, hs⟩
      obtain ⟨A20, c20, rfl, hc20, _⟩ := hs.reads
      rw [HFL2.out] at hs hc20 ⊢
      have hb1 := (hs.pick3 [2]).blk
      have hnew := And.intro hs.bel (And.intro (blk_cell hb1 0) (blk_cell hb1 1))
      have HD20 := Aside0.mk hs
      clear hs hb1
      go_wp2_with fail
      refine hK.out _ _ hnew ?_
      clear hK K
      refine rg_norm (a' := ?_) ?_ ?_
      rotate_left
      · simp only [Act.put, List.setIfInBounds_toArray, List.set_cons_zero, List.set_cons_succ]
        rfl
      clear hHeld
      have hHeld := hnew
      clear hnew
      refine rg_ready [21] (by kernel_rfl) (by simp) ?_
      refine rg_one (i := 21) (N := some 49) (bm 39 67108863) rfl rfl (by kernel_rfl) (fun K hK => ?_) rg_nil
      go_simp
      go_at_call 24
      with_reducible refine (frTheirsR HD20.out HFL2.out (by omega)).mono ?_
      rintro e wx6x10x15x20x21r9 ⟨A21, c21, rfl, hc21, hs⟩
      have hb1 := (hs.pick3 [2]).blk
      have hnew := And.intro hs.bel (And.intro (blk_cell hb1 0) (blk_cell hb1 1))
      have HD21 := Aside0.mk hs
      clear hs hb1
      go_wp2_with fail
      refine hK.out _ _ hnew ?_
      clear hK K
      refine rg_norm (a' := ?_) ?_ ?_
      rotate_left
      · simp only [Act.put, List.setIfInBounds_toArray, List.set_cons_zero, List.set_cons_succ]
        rfl
      clear hHeld
      have hHeld := hnew
      clear hnew
      refine rg_ready [26] (by kernel_rfl) (by simp) ?_
      refine rg_one (i := 26) (N := some 54) (bm 39 134217727) rfl rfl (by kernel_rfl) (fun K hK => ?_) rg_nil
      have hxf := xo_frames (HD21.out.drop.pick5 [3, 4])
      have hxe : z.map (fun x => fmT x.1) = (s'.fr.map fmS).map th := by rw [← HZ.out, List.map_map, List.map_map]; rfl
      rw [hxe] at hxf
      have HXF := Aside0.mk hxf
      clear hxf hxe
      go_simp
      go_at_call 23
      with_reducible refine (frSame HD21.out A21 Af fl c21 cf _ (by rw [List.length_map, HFL2.out]) HD21.out.rd hc21 HXF.out.1 hcf (by omega) HM2.out).mono ?_
      rintro e wx6x10x15x20x21x26r9 ⟨rfl, hs⟩
      have hb1 := (hs.pick3 [2]).blk
      have hnew := And.intro hs.bel (And.intro (blk_cell hb1 0) (blk_cell hb1 1))
      have HD26 := Aside0.mk hs.drop
      clear hs hb1
      go_wp2_with fail
      refine hK.out _ _ hnew ?_
      clear hK K
      refine rg_norm (a' := ?_) ?_ ?_
      rotate_left
      · simp only [Act.put, List.setIfInBounds_toArray, List.set_cons_zero, List.set_cons_succ]
        rfl
      clear hHeld
      have hHeld := hnew
      clear hnew
      refine rg_take (i := 27) (N := some 55) (v := ?_) (a' := ?_) (bm 39 268435455) rfl rfl (by kernel_rfl) (fun _ _ _ h => h) hHeld (Or.inl ⟨by rfl, ?_⟩) ?_ ?_
      rotate_left
      · intro w' hw'
        have hbw : Below w.heap.size w w' := by first | exact hw' | exact hw'.1
        have s0 := pw_cell_below hbw HQ.out.1
        have s1 := pw_cell_below hbw HQ.out.2.1
        have s2 := pw_cell_below hbw HQ.out.2.2.1
        have s3 := pw_cell_below hbw HQ.out.2.2.2.1
        have s4 := pw_cell_below hbw HQ.out.2.2.2.2.1
        have s5 := pw_cell_below hbw HQ.out.2.2.2.2.2.1
        have s6 := pw_cell_below hbw HQ.out.2.2.2.2.2.2
        go_simp
        with_reducible rfl
      rotate_left
      · simp only [Act.put, List.setIfInBounds_toArray, List.set_cons_zero, List.set_cons_succ]
        rfl
      refine rg_take (i := 28) (N := some 56) (v := ?_) (a' := ?_) (bm 39 536870911) rfl rfl (by kernel_rfl) (fun _ _ _ h => h) hHeld (Or.inl ⟨by rfl, ?_⟩) ?_ ?_
      rotate_left
      · intro w' hw'
        have hbw : Below w.heap.size w w' := by first | exact hw' | exact hw'.1
        have s0 := pw_cell_below hbw HQ.out.1
        have s1 := pw_cell_below hbw HQ.out.2.1
        have s2 := pw_cell_below hbw HQ.out.2.2.1
        have s3 := pw_cell_below hbw HQ.out.2.2.2.1
        have s4 := pw_cell_below hbw HQ.out.2.2.2.2.1
        have s5 := pw_cell_below hbw HQ.out.2.2.2.2.2.1
        have s6 := pw_cell_below hbw HQ.out.2.2.2.2.2.2
        go_simp
        with_reducible rfl
      rotate_left
      · simp only [Act.put, List.setIfInBounds_toArray, List.set_cons_zero, List.set_cons_succ]
        rfl
      refine rg_take (i := 29) (N := some 57) (v := ?_) (a' := ?_) (bm 39 1073741823) rfl rfl (by kernel_rfl) (fun _ _ _ h => h) hHeld (Or.inl ⟨by rfl, ?_⟩) ?_ ?_
      rotate_left
      · intro w' hw'
        have hbw : Below w.heap.size w w' := by first | exact hw' | exact hw'.1
        have s0 := pw_cell_below hbw HQ.out.1
        have s1 := pw_cell_below hbw HQ.out.2.1
        have s2 := pw_cell_below hbw HQ.out.2.2.1
        have s3 := pw_cell_below hbw HQ.out.2.2.2.1
        have s4 := pw_cell_below hbw HQ.out.2.2.2.2.1
        have s5 := pw_cell_below hbw HQ.out.2.2.2.2.2.1
        have s6 := pw_cell_below hbw HQ.out.2.2.2.2.2.2
        go_simp
        with_reducible rfl
      rotate_left
      · simp only [Act.put, List.setIfInBounds_toArray, List.set_cons_zero, List.set_cons_succ]
        rfl
      refine rg_take (i := 30) (N := some 58) (v := ?_) (a' := ?_) (bm 39 2147483647) rfl rfl (by kernel_rfl) (fun _ _ _ h => h) hHeld (Or.inl ⟨by rfl, ?_⟩) ?_ ?_
      rotate_left
      · intro w' hw'
        have hbw : Below w.heap.size w w' := by first | exact hw' | exact hw'.1
        have s0 := pw_cell_below hbw HQ.out.1
        have s1 := pw_cell_below hbw HQ.out.2.1
        have s2 := pw_cell_below hbw HQ.out.2.2.1
        have s3 := pw_cell_below hbw HQ.out.2.2.2.1
        have s4 := pw_cell_below hbw HQ.out.2.2.2.2.1
        have s5 := pw_cell_below hbw HQ.out.2.2.2.2.2.1
        have s6 := pw_cell_below hbw HQ.out.2.2.2.2.2.2
        go_simp
        with_reducible rfl
      rotate_left
      · simp only [Act.put, List.setIfInBounds_toArray, List.set_cons_zero, List.set_cons_succ]
        rfl
      refine rg_take (i := 32) (N := some 60) (v := ?_) (a' := ?_) (bm 39 6442450943) rfl rfl (by kernel_rfl) (fun _ _ _ h => h) hHeld (Or.inl ⟨by rfl, ?_⟩) ?_ ?_
      rotate_left
      · intro w' hw'
        have hbw : Below w.heap.size w w' := by first | exact hw' | exact hw'.1
        have s0 := pw_cell_below hbw HQ.out.1
        have s1 := pw_cell_below hbw HQ.out.2.1
        have s2 := pw_cell_below hbw HQ.out.2.2.1
        have s3 := pw_cell_below hbw HQ.out.2.2.2.1
        have s4 := pw_cell_below hbw HQ.out.2.2.2.2.1
        have s5 := pw_cell_below hbw HQ.out.2.2.2.2.2.1
        have s6 := pw_cell_below hbw HQ.out.2.2.2.2.2.2
        go_simp
        with_reducible rfl
      rotate_left
      · simp only [Act.put, List.setIfInBounds_toArray, List.set_cons_zero, List.set_cons_succ]
        rfl
      refine rg_take (i := 33) (N := some 61) (v := ?_) (a' := ?_) (bm 39 15032385535) rfl rfl (by kernel_rfl) (fun _ _ _ h => h) hHeld (Or.inl ⟨by rfl, ?_⟩) ?_ ?_
      rotate_left
      · intro w' hw'
        have hbw : Below w.heap.size w w' := by first | exact hw' | exact hw'.1
        have s0 := pw_cell_below hbw HQ.out.1
        have s1 := pw_cell_below hbw HQ.out.2.1
        have s2 := pw_cell_below hbw HQ.out.2.2.1
        have s3 := pw_cell_below hbw HQ.out.2.2.2.1
        have s4 := pw_cell_below hbw HQ.out.2.2.2.2.1
        have s5 := pw_cell_below hbw HQ.out.2.2.2.2.2.1
        have s6 := pw_cell_below hbw HQ.out.2.2.2.2.2.2
        go_simp
        with_reducible rfl
      rotate_left
      · simp only [Act.put, List.setIfInBounds_toArray, List.set_cons_zero, List.set_cons_succ]
        rfl
      refine rg_take (i := 34) (N := some 62) (v := ?_) (a' := ?_) (bm 39 32212254719) rfl rfl (by kernel_rfl) (fun _ _ _ h => h) hHeld (Or.inl ⟨by rfl, ?_⟩) ?_ ?_
      rotate_left
      · intro w' hw'
        have hbw : Below w.heap.size w w' := by first | exact hw' | exact hw'.1
        have s0 := pw_cell_below hbw HQ.out.1
        have s1 := pw_cell_below hbw HQ.out.2.1
        have s2 := pw_cell_below hbw HQ.out.2.2.1
        have s3 := pw_cell_below hbw HQ.out.2.2.2.1
        have s4 := pw_cell_below hbw HQ.out.2.2.2.2.1
        have s5 := pw_cell_below hbw HQ.out.2.2.2.2.2.1
        have s6 := pw_cell_below hbw HQ.out.2.2.2.2.2.2
        go_simp
        with_reducible rfl
      rotate_left
      · simp only [Act.put, List.setIfInBounds_toArray, List.set_cons_zero, List.set_cons_succ]
        rfl
      refine rg_take (i := 35) (N := some 63) (v := ?_) (a' := ?_) (bm 39 66571993087) rfl rfl (by kernel_rfl) (fun _ _ _ h => h) hHeld (Or.inl ⟨by rfl, ?_⟩) ?_ ?_
      rotate_left
      · intro w' hw'
        have t1 := hw'.2.2
        go_simp
        with_reducible rfl
      rotate_left
      · simp only [Act.put, List.setIfInBounds_toArray, List.set_cons_zero, List.set_cons_succ]
        rfl
      refine rg_take (i := 36) (N := some 64) (v := ?_) (a' := ?_) (bm 39 135291469823) rfl rfl (by kernel_rfl) (fun _ _ _ h => h) hHeld (Or.inl ⟨by rfl, ?_⟩) ?_ ?_
      rotate_left
      · intro w' hw'
        have hbw : Below w.heap.size w w' := by first | exact hw' | exact hw'.1
        have s0 := pw_cell_below hbw HQ.out.1
        have s1 := pw_cell_below hbw HQ.out.2.1
        have s2 := pw_cell_below hbw HQ.out.2.2.1
        have s3 := pw_cell_below hbw HQ.out.2.2.2.1
        have s4 := pw_cell_below hbw HQ.out.2.2.2.2.1
        have s5 := pw_cell_below hbw HQ.out.2.2.2.2.2.1
        have s6 := pw_cell_below hbw HQ.out.2.2.2.2.2.2
        go_simp
        with_reducible rfl
      rotate_left
      · simp only [Act.put, List.setIfInBounds_toArray, List.set_cons_zero, List.set_cons_succ]
        rfl
      refine rg_ready [31] (by kernel_rfl) (by simp) ?_
      refine rg_one (i := 31) (N := some 59) (bm 39 137438953471) rfl rfl (by kernel_rfl) (fun K hK => ?_) rg_nil
      go_simp
      go_at_call 13
      with_reducible refine (fraDepth HD26.out).mono ?_
      rintro e wx6x10x15x20x21x26x31r9 ⟨rfl, hs⟩
      rw [HFL.out]
      have hb1 := (hs.pick2 [1]).blk
      have hnew := And.intro hs.bel (And.intro (blk_cell hb1 0) (blk_cell hb1 1))
      have HD31 := Aside0.mk (show SB w wx6x10x15x20x21x26x31r9 [FO p s', XO g s'] from (SB.xclose HZ.out (by rw [← HVL.out, ← HFL.out] at *; exact hs.pick5 [1, 2, 3, 4, 0])).swap)
      clear hs hb1
      go_wp2_with fail
      refine hK.out _ _ hnew ?_
      clear hK K
      refine rg_norm (a' := ?_) ?_ ?_
      rotate_left
      · simp only [Act.put, List.setIfInBounds_toArray, List.set_cons_zero, List.set_cons_succ]
        rfl
      clear hHeld
      have hHeld := hnew
      clear hnew
      refine rg_take (i := 37) (N := some 65) (v := ?_) (a' := ?_) (bm 39 274877906943) rfl rfl (by kernel_rfl) (fun _ _ _ h => h) hHeld (Or.inl ⟨by rfl, ?_⟩) ?_ ?_
      rotate_left
      · intro w' hw'
        have hbw : Below w.heap.size w w' := by first | exact hw' | exact hw'.1
        have s0 := pw_cell_below hbw HQ.out.1
        have s1 := pw_cell_below hbw HQ.out.2.1
        have s2 := pw_cell_below hbw HQ.out.2.2.1
        have s3 := pw_cell_below hbw HQ.out.2.2.2.1
        have s4 := pw_cell_below hbw HQ.out.2.2.2.2.1
        have s5 := pw_cell_below hbw HQ.out.2.2.2.2.2.1
        have s6 := pw_cell_below hbw HQ.out.2.2.2.2.2.2
        go_simp
        with_reducible rfl
      rotate_left
      · simp only [Act.put, List.setIfInBounds_toArray, List.set_cons_zero, List.set_cons_succ]
        rfl
      refine rg_take (i := 38) (N := some 66) (v := ?_) (a' := ?_) (bm 39 549755813887) rfl rfl (by kernel_rfl) (fun _ _ _ h => h) hHeld (Or.inl ⟨by rfl, ?_⟩) ?_ ?_
      rotate_left
      · intro w' hw'
        have hbw : Below w.heap.size w w' := by first | exact hw' | exact hw'.1
        have s0 := pw_cell_below hbw HQ.out.1
        have s1 := pw_cell_below hbw HQ.out.2.1
        have s2 := pw_cell_below hbw HQ.out.2.2.1
        have s3 := pw_cell_below hbw HQ.out.2.2.2.1
        have s4 := pw_cell_below hbw HQ.out.2.2.2.2.1
        have s5 := pw_cell_below hbw HQ.out.2.2.2.2.2.1
        have s6 := pw_cell_below hbw HQ.out.2.2.2.2.2.2
        go_simp
        with_reducible rfl
      rotate_left
      · simp only [Act.put, List.setIfInBounds_toArray, List.set_cons_zero, List.set_cons_succ]
        rfl
      refine rg_done (by kernel_rfl) ?_
      go_wp2_with (first
        | (go_at_call 27; go_must ((with_reducible refine (fraTop HD31.out HLoc2.out HTY.out).mono ?_); rintro e w27 ⟨v27, rfl, hs⟩; obtain ⟨A27, c27, rfl, _, _⟩ := hs.reads; rw [HLY.out] at hs ⊢; obtain ⟨b1, hb1⟩ : ∃ b, w27.heap.size = b := ⟨_, rfl⟩; have hs2 := hs.box #[.int .i64 y.f, .int .i64 y.pc, .slice A27 ly c27, .int .i64 y.base] 58; rw [hb1] at hs2; have HS27 := Aside0.mk hs2; clear hs hs2))
        | (go_at_call 28; go_must ((with_reducible refine (xTop (HS27.out.pick4 [3, 0, 1, 2]) hF2 HLoc2.out HTY.out).mono ?_); rintro e w28 ⟨v28, rfl, hs⟩; obtain ⟨A28, c28, rfl, _, _⟩ := hs.reads; rw [HLY.out] at hs ⊢; obtain ⟨b2, hb2⟩ : ∃ b, w28.heap.size = b := ⟨_, rfl⟩; have hs2 := hs.box #[.int .i64 y.f, .int .i64 y.pc, .slice A28 ly c28, .int .i64 y.base] 61; rw [hb2] at hs2; have HS28 := Aside0.mk (SB.drew (hs2.pick6 [4, 1, 3, 0, 5, 2])); clear hs hs2)))
      have hbb1 : _ = some (Obj.cells #[.int .i64 y.f, .int .i64 y.pc, .slice A27 ly c27, .int .i64 y.base] 58 (0, 0)) := (HS28.out.pick3 [2]).blk
      have hbb2 : _ = some (Obj.cells #[.int .i64 y.f, .int .i64 y.pc, .slice A28 ly c28, .int .i64 y.base] 61 (0, 0)) := (HS28.out.pick4 [3]).blk
      refine rg_startL (n := 12) (S := fun w' => w'.heap[b1]? = some (.cells #[.int .i64 y.f, .int .i64 y.pc, .slice A27 ly c27, .int .i64 y.base] 58 (0, 0)) ∧ w'.heap[b2]? = some (.cells #[.int .i64 y.f, .int .i64 y.pc, .slice A28 ly c28, .int .i64 y.base] 61 (0, 0))) (bm 12 0) (by kernel_rfl) rfl (by kernel_rfl) (⟨hbb1, hbb2⟩) (fun we hwe hHeld => ?_)
      refine rg_take (i := 0) (N := some 77) (v := ?_) (a' := ?_) (bm 12 1) rfl rfl (by kernel_rfl) (fun _ _ _ h => h) hHeld (Or.inl ⟨by rfl, ?_⟩) ?_ ?_
      rotate_left
      · intro w' hw'
        have y0 := blk_cell hw'.1 0
        have y1 := blk_cell hw'.1 1
        have y2 := blk_cell hw'.1 2
        have y3 := blk_cell hw'.1 3
        have z0 := blk_cell hw'.2 0
        have z1 := blk_cell hw'.2 1
        have z2 := blk_cell hw'.2 2
        have z3 := blk_cell hw'.2 3
        go_simp
        with_reducible rfl
      rotate_left
      · simp only [Act.put, List.setIfInBounds_toArray, List.set_cons_zero, List.set_cons_succ]
        rfl
      refine rg_take (i := 1) (N := some 78) (v := ?_) (a' := ?_) (bm 12 3) rfl rfl (by kernel_rfl) (fun _ _ _ h => h) hHeld (Or.inl ⟨by rfl, ?_⟩) ?_ ?_
      rotate_left
      · intro w' hw'
        have y0 := blk_cell hw'.1 0
        have y1 := blk_cell hw'.1 1
        have y2 := blk_cell hw'.1 2
        have y3 := blk_cell hw'.1 3
        have z0 := blk_cell hw'.2 0
        have z1 := blk_cell hw'.2 1
        have z2 := blk_cell hw'.2 2
        have z3 := blk_cell hw'.2 3
        go_simp
        with_reducible rfl
      rotate_left
      · simp only [Act.put, List.setIfInBounds_toArray, List.set_cons_zero, List.set_cons_succ]
        rfl
      refine rg_take (i := 2) (N := some 79) (v := ?_) (a' := ?_) (bm 12 7) rfl rfl (by kernel_rfl) (fun _ _ _ h => h) hHeld (Or.inl ⟨by rfl, ?_⟩) ?_ ?_
      rotate_left
      · intro w' hw'
        have y0 := blk_cell hw'.1 0
        have y1 := blk_cell hw'.1 1
        have y2 := blk_cell hw'.1 2
        have y3 := blk_cell hw'.1 3
        have z0 := blk_cell hw'.2 0
        have z1 := blk_cell hw'.2 1
        have z2 := blk_cell hw'.2 2
        have z3 := blk_cell hw'.2 3
        go_simp
        with_reducible rfl
      rotate_left
      · simp only [Act.put, List.setIfInBounds_toArray, List.set_cons_zero, List.set_cons_succ]
        rfl
      refine rg_take (i := 3) (N := some 80) (v := ?_) (a' := ?_) (bm 12 15) rfl rfl (by kernel_rfl) (fun _ _ _ h => h) hHeld (Or.inl ⟨by rfl, ?_⟩) ?_ ?_
      rotate_left
      · intro w' hw'
        have y0 := blk_cell hw'.1 0
        have y1 := blk_cell hw'.1 1
        have y2 := blk_cell hw'.1 2
        have y3 := blk_cell hw'.1 3
        have z0 := blk_cell hw'.2 0
        have z1 := blk_cell hw'.2 1
        have z2 := blk_cell hw'.2 2
        have z3 := blk_cell hw'.2 3
        go_simp
        with_reducible rfl
      rotate_left
      · simp only [Act.put, List.setIfInBounds_toArray, List.set_cons_zero, List.set_cons_succ]
        rfl
      refine rg_take (i := 4) (N := some 81) (v := ?_) (a' := ?_) (bm 12 31) rfl rfl (by kernel_rfl) (fun _ _ _ h => h) hHeld (Or.inl ⟨by rfl, ?_⟩) ?_ ?_
      rotate_left
      · intro w' hw'
        have y0 := blk_cell hw'.1 0
        have y1 := blk_cell hw'.1 1
        have y2 := blk_cell hw'.1 2
        have y3 := blk_cell hw'.1 3
        have z0 := blk_cell hw'.2 0
        have z1 := blk_cell hw'.2 1
        have z2 := blk_cell hw'.2 2
        have z3 := blk_cell hw'.2 3
        go_simp
        with_reducible rfl
      rotate_left
      · simp only [Act.put, List.setIfInBounds_toArray, List.set_cons_zero, List.set_cons_succ]
        rfl
      refine rg_take (i := 7) (N := some 84) (v := ?_) (a' := ?_) (bm 12 159) rfl rfl (by kernel_rfl) (fun _ _ _ h => h) hHeld (Or.inl ⟨by rfl, ?_⟩) ?_ ?_
      rotate_left
      · intro w' hw'
        have y0 := blk_cell hw'.1 0
        have y1 := blk_cell hw'.1 1
        have y2 := blk_cell hw'.1 2
        have y3 := blk_cell hw'.1 3
        have z0 := blk_cell hw'.2 0
        have z1 := blk_cell hw'.2 1
        have z2 := blk_cell hw'.2 2
        have z3 := blk_cell hw'.2 3
        go_simp
        with_reducible rfl
      rotate_left
      · simp only [Act.put, List.setIfInBounds_toArray, List.set_cons_zero, List.set_cons_succ]
        rfl
      refine rg_ready [5, 8] (by kernel_rfl) (by simp) ?_
      refine rg_one (i := 5) (N := some 82) (bm 12 191) rfl rfl (by kernel_rfl) (fun K hK => ?_) ?_
      · skip
        refine valueL_ (w1 := ?_) (v := ?_) (by rfl) rfl ?_ ?_
        rotate_left 2
        · go_simp
          constructor
          · rfl
          · rfl
        intro wx5r13 hn5
        first
          | (have hs5 := SB.lit1N (e := 58) (y := fmS y) HCUR.out (fun F hF => fm_M y F hF); rw [← hn5] at hs5; have HN5 := Aside0.mk hs5; clear hs5)
          | (have hs5 := SB.lit1N (e := 58) (y := fmS y) (hwe.out ▸ HS28.out) (fun F hF => fm_M y F hF); rw [← hn5] at hs5; have HN5 := Aside0.mk hs5; clear hs5)
        have HCUR := HN5
        have hnew := And.intro (HCUR.out.pick3 [2]).blk (HCUR.out.pick4 [3]).blk
        clear hn5 HN5
        refine hK.out _ _ hnew ?_
        clear hK K
        refine rg_norm (a' := ?_) ?_ ?_
        rotate_left
        · simp only [Act.put, List.setIfInBounds_toArray, List.set_cons_zero, List.set_cons_succ]
          rfl
        clear hHeld
        have hHeld := hnew
        clear hnew
        refine rg_ready [6, 8] (by kernel_rfl) (by simp) ?_
        refine rg_one (i := 6) (N := some 83) (bm 12 255) rfl rfl (by kernel_rfl) (fun K hK => ?_) ?_
        · skip
          go_simp
          go_at_call 24
          with_reducible refine (frTheirsR (n := 1) HCUR.out rfl (by decide)).mono ?_
          rintro e wx5x6r13 ⟨A6, c6, rfl, hc6, hs⟩
          have hnew := And.intro (hs.pick3 [2]).blk (hs.pick4 [3]).blk
          have HCUR := Aside0.mk hs
          clear hs
          go_wp2_with fail
          refine hK.out _ _ hnew ?_
          clear hK K
          refine rg_norm (a' := ?_) ?_ ?_
          rotate_left
          · simp only [Act.put, List.setIfInBounds_toArray, List.set_cons_zero, List.set_cons_succ]
            rfl
          clear hHeld
          have hHeld := hnew
          clear hnew
          refine rg_ready [8] (by kernel_rfl) (by simp) ?_
          refine rg_one (i := 8) (N := some 85) (bm 12 511) rfl rfl (by kernel_rfl) (fun K hK => ?_) rg_nil
          refine valueL_ (w1 := ?_) (v := ?_) (by rfl) rfl ?_ ?_
          rotate_left 2
          · go_simp
            constructor
            · rfl
            · rfl
          intro wx5x6x8r13 hn8
          first
            | (have hs8 := SB.lit1N (e := 61) (y := fmT y) HCUR.out.swap (fun F hF => fm_M61 y F hF); rw [← hn8] at hs8; have HN8 := Aside0.mk hs8.swap; clear hs8)
            | (have hs8 := SB.lit1N (e := 61) (y := fmT y) (SB.swap (hwe.out ▸ HS28.out)) (fun F hF => fm_M61 y F hF); rw [← hn8] at hs8; have HN8 := Aside0.mk hs8.swap; clear hs8)
          have HCUR := HN8
          have hnew := And.intro (HCUR.out.pick3 [2]).blk (HCUR.out.pick4 [3]).blk
          clear hn8 HN8
          refine hK.out _ _ hnew ?_
          clear hK K
          refine rg_norm (a' := ?_) ?_ ?_
          rotate_left
          · simp only [Act.put, List.setIfInBounds_toArray, List.set_cons_zero, List.set_cons_succ]
            rfl
          clear hHeld
          have hHeld := hnew
          clear hnew
          refine rg_ready [9] (by kernel_rfl) (by simp) ?_
          refine rg_one (i := 9) (N := some 86) (bm 12 1023) rfl rfl (by kernel_rfl) (fun K hK => ?_) rg_nil
          obtain ⟨Ak, ck, ek, hck, hCk⟩ := HCUR.out.swap.reads
          injection ek with ek1 ek2 ek3
          clear ek2
          subst ek1 ek3
          have HCk := Aside0.mk hCk
          clear hCk
          go_simp
          go_at_call 23
          with_reducible refine (frSame HCUR.out _ _ 1 _ _ [fmT y] rfl HCUR.out.rd hc6 HCk.out hck (by decide) HM1.out).mono ?_
          rintro e wx5x6x8x9r13 ⟨rfl, hs⟩
          have hnew := And.intro (hs.pick3 [2]).blk (hs.pick4 [3]).blk
          have HCUR := Aside0.mk hs
          clear hs
          go_wp2_with fail
          refine hK.out _ _ hnew ?_
          clear hK K
          refine rg_norm (a' := ?_) ?_ ?_
          rotate_left
          · simp only [Act.put, List.setIfInBounds_toArray, List.set_cons_zero, List.set_cons_succ]
            rfl
          clear hHeld
          have hHeld := hnew
          clear hnew
          refine rg_take (i := 10) (N := some 87) (v := ?_) (a' := ?_) (bm 12 2047) rfl rfl (by kernel_rfl) (fun _ _ _ h => h) hHeld (Or.inl ⟨by rfl, ?_⟩) ?_ ?_
          rotate_left
          · intro w' hw'
            have y0 := blk_cell hw'.1 0
            have y1 := blk_cell hw'.1 1
            have y2 := blk_cell hw'.1 2
            have y3 := blk_cell hw'.1 3
            have z0 := blk_cell hw'.2 0
            have z1 := blk_cell hw'.2 1
            have z2 := blk_cell hw'.2 2
            have z3 := blk_cell hw'.2 3
            go_simp
            with_reducible rfl
          rotate_left
          · simp only [Act.put, List.setIfInBounds_toArray, List.set_cons_zero, List.set_cons_succ]
            rfl
          refine rg_take (i := 11) (N := some 88) (v := ?_) (a' := ?_) (bm 12 4095) rfl rfl (by kernel_rfl) (fun _ _ _ h => h) hHeld (Or.inl ⟨by rfl, ?_⟩) ?_ ?_
          rotate_left
          · intro w' hw'
            have y0 := blk_cell hw'.1 0
            have y1 := blk_cell hw'.1 1
            have y2 := blk_cell hw'.1 2
            have y3 := blk_cell hw'.1 3
            have z0 := blk_cell hw'.2 0
            have z1 := blk_cell hw'.2 1
            have z2 := blk_cell hw'.2 2
            have z3 := blk_cell hw'.2 3
            go_simp
            with_reducible rfl
          rotate_left
          · simp only [Act.put, List.setIfInBounds_toArray, List.set_cons_zero, List.set_cons_succ]
            rfl
          refine rg_done (by kernel_rfl) ?_
          go_wp2
          refine ⟨⟨i + 1, s', by simp, by omega, HI2, ⟨HCUR.out.pick6 [4, 5]⟩⟩, by simp [intOf]; omega⟩
        refine rg_one (i := 8) (N := some 85) (bm 12 447) rfl rfl (by kernel_rfl) (fun K hK => ?_) ?_
        · skip
          refine valueL_ (w1 := ?_) (v := ?_) (by rfl) rfl ?_ ?_
          rotate_left 2
          · go_simp
            constructor
            · rfl
            · rfl
          intro wx5x8r13 hn8
          first
            | (have hs8 := SB.lit1N (e := 61) (y := fmT y) HCUR.out.swap (fun F hF => fm_M61 y F hF); rw [← hn8] at hs8; have HN8 := Aside0.mk hs8.swap; clear hs8)
            | (have hs8 := SB.lit1N (e := 61) (y := fmT y) (SB.swap (hwe.out ▸ HS28.out)) (fun F hF => fm_M61 y F hF); rw [← hn8] at hs8; have HN8 := Aside0.mk hs8.swap; clear hs8)
          have HCUR := HN8
          have hnew := And.intro (HCUR.out.pick3 [2]).blk (HCUR.out.pick4 [3]).blk
          clear hn8 HN8
          refine hK.out _ _ hnew ?_
          clear hK K
          refine rg_norm (a' := ?_) ?_ ?_
          rotate_left
          · simp only [Act.put, List.setIfInBounds_toArray, List.set_cons_zero, List.set_cons_succ]
            rfl
          clear hHeld
          have hHeld := hnew
          clear hnew
          refine rg_ready [6] (by kernel_rfl) (by simp) ?_
          refine rg_one (i := 6) (N := some 83) (bm 12 511) rfl rfl (by kernel_rfl) (fun K hK => ?_) rg_nil
          go_simp
          go_at_call 24
          with_reducible refine (frTheirsR (n := 1) HCUR.out rfl (by decide)).mono ?_
          rintro e wx5x8x6r13 ⟨A6, c6, rfl, hc6, hs⟩
          have hnew := And.intro (hs.pick3 [2]).blk (hs.pick4 [3]).blk
          have HCUR := Aside0.mk hs
          clear hs
          go_wp2_with fail
          refine hK.out _ _ hnew ?_
          clear hK K
          refine rg_norm (a' := ?_) ?_ ?_
          rotate_left
          · simp only [Act.put, List.setIfInBounds_toArray, List.set_cons_zero, List.set_cons_succ]
            rfl
          clear hHeld
          have hHeld := hnew
          clear hnew
          refine rg_ready [9] (by kernel_rfl) (by simp) ?_
          refine rg_one (i := 9) (N := some 86) (bm 12 1023) rfl rfl (by kernel_rfl) (fun K hK => ?_) rg_nil
          obtain ⟨Ak, ck, ek, hck, hCk⟩ := HCUR.out.swap.reads
          injection ek with ek1 ek2 ek3
          clear ek2
          subst ek1 ek3
          have HCk := Aside0.mk hCk
          clear hCk
          go_simp
          go_at_call 23
          with_reducible refine (frSame HCUR.out _ _ 1 _ _ [fmT y] rfl HCUR.out.rd hc6 HCk.out hck (by decide) HM1.out).mono ?_
          rintro e wx5x8x6x9r13 ⟨rfl, hs⟩
          have hnew := And.intro (hs.pick3 [2]).blk (hs.pick4 [3]).blk
          have HCUR := Aside0.mk hs
          clear hs
          go_wp2_with fail
          refine hK.out _ _ hnew ?_
          clear hK K
          refine rg_norm (a' := ?_) ?_ ?_
          rotate_left
          · simp only [Act.put, List.setIfInBounds_toArray, List.set_cons_zero, List.set_cons_succ]
            rfl
          clear hHeld
          have hHeld := hnew
          clear hnew
          refine rg_take (i := 10) (N := some 87) (v := ?_) (a' := ?_) (bm 12 2047) rfl rfl (by kernel_rfl) (fun _ _ _ h => h) hHeld (Or.inl ⟨by rfl, ?_⟩) ?_ ?_
          rotate_left
          · intro w' hw'
            have y0 := blk_cell hw'.1 0
            have y1 := blk_cell hw'.1 1
            have y2 := blk_cell hw'.1 2
            have y3 := blk_cell hw'.1 3
            have z0 := blk_cell hw'.2 0
            have z1 := blk_cell hw'.2 1
            have z2 := blk_cell hw'.2 2
            have z3 := blk_cell hw'.2 3
            go_simp
            with_reducible rfl
          rotate_left
          · simp only [Act.put, List.setIfInBounds_toArray, List.set_cons_zero, List.set_cons_succ]
            rfl
          refine rg_take (i := 11) (N := some 88) (v := ?_) (a' := ?_) (bm 12 4095) rfl rfl (by kernel_rfl) (fun _ _ _ h => h) hHeld (Or.inl ⟨by rfl, ?_⟩) ?_ ?_
          rotate_left
          · intro w' hw'
            have y0 := blk_cell hw'.1 0
            have y1 := blk_cell hw'.1 1
            have y2 := blk_cell hw'.1 2
            have y3 := blk_cell hw'.1 3
            have z0 := blk_cell hw'.2 0
            have z1 := blk_cell hw'.2 1
            have z2 := blk_cell hw'.2 2
            have z3 := blk_cell hw'.2 3
            go_simp
            with_reducible rfl
          rotate_left
          · simp only [Act.put, List.setIfInBounds_toArray, List.set_cons_zero, List.set_cons_succ]
            rfl
          refine rg_done (by kernel_rfl) ?_
          go_wp2
          refine ⟨⟨i + 1, s', by simp, by omega, HI2, ⟨HCUR.out.pick6 [4, 5]⟩⟩, by simp [intOf]; omega⟩
        exact rg_nil
      refine rg_one (i := 8) (N := some 85) (bm 12 415) rfl rfl (by kernel_rfl) (fun K hK => ?_) ?_
      · skip
        refine valueL_ (w1 := ?_) (v := ?_) (by rfl) rfl ?_ ?_
        rotate_left 2
        · go_simp
          constructor
          · rfl
          · rfl
        intro wx8r13 hn8
        first
          | (have hs8 := SB.lit1N (e := 61) (y := fmT y) HCUR.out.swap (fun F hF => fm_M61 y F hF); rw [← hn8] at hs8; have HN8 := Aside0.mk hs8.swap; clear hs8)
          | (have hs8 := SB.lit1N (e := 61) (y := fmT y) (SB.swap (hwe.out ▸ HS28.out)) (fun F hF => fm_M61 y F hF); rw [← hn8] at hs8; have HN8 := Aside0.mk hs8.swap; clear hs8)
        have HCUR := HN8
        have hnew := And.intro (HCUR.out.pick3 [2]).blk (HCUR.out.pick4 [3]).blk
        clear hn8 HN8
        refine hK.out _ _ hnew ?_
        clear hK K
        refine rg_norm (a' := ?_) ?_ ?_
        rotate_left
        · simp only [Act.put, List.setIfInBounds_toArray, List.set_cons_zero, List.set_cons_succ]
          rfl
        clear hHeld
        have hHeld := hnew
        clear hnew
        refine rg_ready [5] (by kernel_rfl) (by simp) ?_
        refine rg_one (i := 5) (N := some 82) (bm 12 447) rfl rfl (by kernel_rfl) (fun K hK => ?_) rg_nil
        refine valueL_ (w1 := ?_) (v := ?_) (by rfl) rfl ?_ ?_
        rotate_left 2
        · go_simp
          constructor
          · rfl
          · rfl
        intro wx8x5r13 hn5
        first
          | (have hs5 := SB.lit1N (e := 58) (y := fmS y) HCUR.out (fun F hF => fm_M y F hF); rw [← hn5] at hs5; have HN5 := Aside0.mk hs5; clear hs5)
          | (have hs5 := SB.lit1N (e := 58) (y := fmS y) (hwe.out ▸ HS28.out) (fun F hF => fm_M y F hF); rw [← hn5] at hs5; have HN5 := Aside0.mk hs5; clear hs5)
        have HCUR := HN5
        have hnew := And.intro (HCUR.out.pick3 [2]).blk (HCUR.out.pick4 [3]).blk
        clear hn5 HN5
        refine hK.out _ _ hnew ?_
        clear hK K
        refine rg_norm (a' := ?_) ?_ ?_
        rotate_left
        · simp only [Act.put, List.setIfInBounds_toArray, List.set_cons_zero, List.set_cons_succ]
          rfl
        clear hHeld
        have hHeld := hnew
        clear hnew
        refine rg_ready [6] (by kernel_rfl) (by simp) ?_
        refine rg_one (i := 6) (N := some 83) (bm 12 511) rfl rfl (by kernel_rfl) (fun K hK => ?_) rg_nil
        go_simp
        go_at_call 24
        with_reducible refine (frTheirsR (n := 1) HCUR.out rfl (by decide)).mono ?_
        rintro e wx8x5x6r13 ⟨A6, c6, rfl, hc6, hs⟩
        have hnew := And.intro (hs.pick3 [2]).blk (hs.pick4 [3]).blk
        have HCUR := Aside0.mk hs
        clear hs
        go_wp2_with fail
        refine hK.out _ _ hnew ?_
        clear hK K
        refine rg_norm (a' := ?_) ?_ ?_
        rotate_left
        · simp only [Act.put, List.setIfInBounds_toArray, List.set_cons_zero, List.set_cons_succ]
          rfl
        clear hHeld
        have hHeld := hnew
        clear hnew
        refine rg_ready [9] (by kernel_rfl) (by simp) ?_
        refine rg_one (i := 9) (N := some 86) (bm 12 1023) rfl rfl (by kernel_rfl) (fun K hK => ?_) rg_nil
        obtain ⟨Ak, ck, ek, hck, hCk⟩ := HCUR.out.swap.reads
        injection ek with ek1 ek2 ek3
        clear ek2
        subst ek1 ek3
        have HCk := Aside0.mk hCk
        clear hCk
        go_simp
        go_at_call 23
        with_reducible refine (frSame HCUR.out _ _ 1 _ _ [fmT y] rfl HCUR.out.rd hc6 HCk.out hck (by decide) HM1.out).mono ?_
        rintro e wx8x5x6x9r13 ⟨rfl, hs⟩
        have hnew := And.intro (hs.pick3 [2]).blk (hs.pick4 [3]).blk
        have HCUR := Aside0.mk hs
        clear hs
        go_wp2_with fail
        refine hK.out _ _ hnew ?_
        clear hK K
        refine rg_norm (a' := ?_) ?_ ?_
        rotate_left
        · simp only [Act.put, List.setIfInBounds_toArray, List.set_cons_zero, List.set_cons_succ]
          rfl
        clear hHeld
        have hHeld := hnew
        clear hnew
        refine rg_take (i := 10) (N := some 87) (v := ?_) (a' := ?_) (bm 12 2047) rfl rfl (by kernel_rfl) (fun _ _ _ h => h) hHeld (Or.inl ⟨by rfl, ?_⟩) ?_ ?_
        rotate_left
        · intro w' hw'
          have y0 := blk_cell hw'.1 0
          have y1 := blk_cell hw'.1 1
          have y2 := blk_cell hw'.1 2
          have y3 := blk_cell hw'.1 3
          have z0 := blk_cell hw'.2 0
          have z1 := blk_cell hw'.2 1
          have z2 := blk_cell hw'.2 2
          have z3 := blk_cell hw'.2 3
          go_simp
          with_reducible rfl
        rotate_left
        · simp only [Act.put, List.setIfInBounds_toArray, List.set_cons_zero, List.set_cons_succ]
          rfl
        refine rg_take (i := 11) (N := some 88) (v := ?_) (a' := ?_) (bm 12 4095) rfl rfl (by kernel_rfl) (fun _ _ _ h => h) hHeld (Or.inl ⟨by rfl, ?_⟩) ?_ ?_
        rotate_left
        · intro w' hw'
          have y0 := blk_cell hw'.1 0
          have y1 := blk_cell hw'.1 1
          have y2 := blk_cell hw'.1 2
          have y3 := blk_cell hw'.1 3
          have z0 := blk_cell hw'.2 0
          have z1 := blk_cell hw'.2 1
          have z2 := blk_cell hw'.2 2
          have z3 := blk_cell hw'.2 3
          go_simp
          with_reducible rfl
        rotate_left
        · simp only [Act.put, List.setIfInBounds_toArray, List.set_cons_zero, List.set_cons_succ]
          rfl
        refine rg_done (by kernel_rfl) ?_
        go_wp2
        refine ⟨⟨i + 1, s', by simp, by omega, HI2, ⟨HCUR.out.pick6 [4, 5]⟩⟩, by simp [intOf]; omega⟩
      exact rg_nil
    · have e1 : decide ((i : Int) < (l.length : Int)) = false := decide_eq_false (by omega)
      have e2 : decide (i < l.length) = false := decide_eq_false hlt
      go_wp2
      go_ret
      exact ⟨rfl, HR.out.bel⟩
def avocetlaw17_FramesPlay.f (a0 : Int) (l1 : List (S44)) : Option (Bool) := if (∀ x ∈ l1, okA x) then some true else none
theorem avocetlaw17_FramesPlay.calls (a0 : Int) (A1 : Option Addr) (c1 : Nat) (l1 : List (S44)) (r : Bool) (w : World) (hr1 : Kd.C k44 w A1 l1.length l1) (hc1 : l1.length ≤ c1) (hr_ : r = true) (h : avocetlaw17_FramesPlay.f a0 l1 = some r) :
    Calls Try.prog 6 #[.int .i64 a0, .slice A1 l1.length c1] w fun e w' => e = .returned (.bool r) ∧ Below w.heap.size w w' := by
  subst hr_
  by_cases hn : (∀ x ∈ l1, okA x)
  · exact framesPlay a0 l1 A1 c1 w hr1 hc1 hn
  · unfold avocetlaw17_FramesPlay.f at h
    rw [if_neg hn] at h
    simp at h
end Go.Proofs.Ytbbgkelcdooabaa.G
