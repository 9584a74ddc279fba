/- The document's stacks: Enter, Leave, Cut. -/
import Derived.Deep.DeepMust
import Derived.Test.YtbbgkelcdooabaaFraT
namespace Go.Proofs.Ytbbgkelcdooabaa.G
open Go.RowKit Go.Proofs.YtbbgkelcdooabaaW.PrintWords Go.Proofs.YtbbgkelcdooabaaW.PrintLast Go.Proofs.YtbbgkelcdooabaaW.PrintMore
set_option linter.unusedVariables false
set_option linter.unusedSimpArgs false
section
variable {P : Program} {ops : Array Oper} {o : Oper} {a : Act} {Q : Exit → Act → World → Prop} {Kc : Act → World → Prop} {α : Type} {d : Kd α}
/-- append(v, y), v the head's row, in a region that draws: behind the literal that holds y. -/
theorem SB.app1Step {w0 W : World} {L : List As} {e : Nat} {v : Value} {xs : List α} {y : α} {cs : List Value} (HS : SB w0 W (Row d e v xs :: L)) (hw : Region.wanted o (yielded ops a.tmps) = true) (s x : Operand) (t : TypeId) (z : Value) (bytes : Nat)
    (ho : o.op = .call { callee := .builtin .append, args := #[s, x], argTypes := #[t, t] })
    (ht : P.underlying t = some (.slice e)) (hinfo : (P.info? e).map (fun i => (i.zero, i.size, i.bytes)) = some (some z, d.sz, bytes)) (hz : z.cells.size = d.sz) (hs0 : 0 < d.sz) (hb0 : 0 < bytes)
    (hs : a.eval s = v) (hx : a.eval x = .slice (some ⟨W.heap.size, 0, none⟩) 1 1) (hp : d.M W 0 (fun _ => False) y cs) (hl : (xs.length + 1) * bytes ≤ 140737488355328)
    (h : ∀ v1 w1, SB w0 w1 (Row d e v1 (xs ++ [y]) :: L) → Kc (a.put o.dst v1) w1) :
    if Region.wanted o (yielded ops a.tmps) = true then Oper.wp P o a (W.alloc (.cells cs.toArray e)) Kc Q else Kc (a.put o.dst undef) (W.alloc (.cells cs.toArray e)) := by
  obtain ⟨F, hF, hge, K⟩ := HS.frame
  refine Kd.R_append_step d (w0 := W) 0 hw s x t e z bytes ho ht hinfo hz hs0 hb0 v xs y cs (fun k => F k ∨ W.heap.size ≤ k) (fun _ => False) hs hx hp (fun _ h => h.elim) (fun _ h => .inr h) (Kd.R_mono hF.1 (fun k hk => .inl hk)) (Below.refl 0 W) (Nat.zero_le _) hl ?_
  intro v1 w1 hR _ hg _
  exact h v1 w1 (row_grown hF K hR hg)
end
theorem cut49 (A : Option Addr) (n c t : Nat) (h : t ≤ n) (hc : n ≤ c) (W : World) : (Instr.slice 49 (.slice A n c) none (some (.int .i64 (t : Int))) none).run Try.prog W = .ok (.slice A t c) W := by
  obtain ⟨i0, hi0, _, hsz, _⟩ := info_parts info61
  have hel : Try.prog.elem 49 = 61 := by simp [Program.elem, Try.underlying49]
  have hu : Try.prog.underlying 49 = some (.slice (Try.prog.elem 49)) := by rw [hel]; exact Try.underlying49
  have ha : (A.map fun x => x.add 0) = A := by cases A <;> simp [Addr.add]
  rw [run_slice_h W 49 A n c hu .i64 (t : Int) (by omega) (by omega), hel]
  simp [sizeOf, typeInfo, hi0, hsz, sliced, Result.andThen, ha]
theorem xEnterDeep {w0 w : World} {L : List As} {g : Nat} {s : FS} (hS : SB w0 w (XO g s :: L)) (hF : s.fr.length ≤ 64) (a b c d : Int) (h : s.room ≤ (s.fr.length : Int)) :
    Calls Try.prog 45 #[.pointer (some ⟨g, 0, none⟩), .int .i64 a, .int .i64 b, .int .i64 c, .int .i64 d] w fun e w' => e = .returned (.int .i64 9) ∧ SB w0 w' (XO g s :: L) := by
  obtain ⟨A, c0, Af, cf, s0, s1, s2, hc, hcf, hC⟩ := xo_cells hS
  obtain ⟨m, hm⟩ : ∃ m, s.fr.length = m := ⟨_, rfl⟩
  rw [hm] at s1 h
  have d0 : decide (s.room ≤ (m : Int)) = true := decide_eq_true h
  have HS := Aside0.mk hS
  clear hS hC hm
  go_enter Try.func45, Try.ntmps45
  go_wp2
  go_quiet (fail)
  go_wp2
  go_ret
  exact ⟨rfl, HS.out.drewN _⟩
theorem xEnterStuck {w0 w : World} {L : List As} {g : Nat} {s : FS} {B : Nat} (hS : SB w0 w (XO g s :: L)) (hI : Inv s B) (hB : B ≤ 100000) (hF : s.fr.length ≤ 64) (a b c d : Int) (hc2 : -9223372036854775808 ≤ c ∧ c < 9223372036854775808) (h : ¬ s.room ≤ (s.fr.length : Int)) (h2 : d < 0 ∨ ¬ hasN s c) :
    Calls Try.prog 45 #[.pointer (some ⟨g, 0, none⟩), .int .i64 a, .int .i64 b, .int .i64 c, .int .i64 d] w fun e w' => e = .returned (.int .i64 11) ∧ SB w0 w' (XO g s :: L) := by
  obtain ⟨A, c0, Af, cf, s0, s1, s2, hc, hcf, hC⟩ := xo_cells hS
  obtain ⟨m, hm⟩ : ∃ m, s.fr.length = m := ⟨_, rfl⟩
  rw [hm] at s1 h
  have d0 : decide (s.room ≤ (m : Int)) = false := decide_eq_false h
  have HS := Aside0.mk hS
  by_cases h3 : c < 0
  · have d1 : decide (c < 0) = true := decide_eq_true h3
    clear hS hC hm hI
    go_enter Try.func45, Try.ntmps45
    go_wp2
    go_quiet (fail)
    go_wp2
    go_ret
    exact ⟨rfl, HS.out.drewN _⟩
  have d1 : decide (c < 0) = false := decide_eq_false h3
  by_cases h4 : d < 0
  · have d2 : decide (d < 0) = true := decide_eq_true h4
    clear hS hC hm hI
    go_enter Try.func45, Try.ntmps45
    go_wp2
    go_quiet (fail)
    go_wp2
    go_ret
    exact ⟨rfl, HS.out.drewN _⟩
  have d2 : decide (d < 0) = false := decide_eq_false h4
  have hn : ¬ hasN s c := h2.resolve_left h4
  have HT := Aside0.mk (fun nd => xTakeNo (hS.drewN nd) hI hB hF c hn hc2)
  clear hS hC hm hI hn h2
  go_enter Try.func45, Try.ntmps45
  go_wp2
  go_quiet (fail)
  go_wp2_with (go_at_call 44; go_must ((with_reducible refine (HT.out _).mono ?_); rintro e w3 ⟨rfl, hs⟩; have HS3 := Aside0.mk hs; clear hs))
  go_ret
  exact ⟨rfl, HS3.out⟩
set_option maxHeartbeats 4000000 in
theorem xEnterOk {w0 w : World} {L : List As} {g : Nat} {s : FS} {B : Nat} (hS : SB w0 w (XO g s :: L)) (hI : Inv s B) (hB : B ≤ 100000) (hF : s.fr.length ≤ 64) (a b : Int) (c d : Nat) (hd : d ≤ 1000000) (h : ¬ s.room ≤ (s.fr.length : Int)) (h2 : hasN s c) :
    Calls Try.prog 45 #[.pointer (some ⟨g, 0, none⟩), .int .i64 a, .int .i64 b, .int .i64 c, .int .i64 d] w fun e w' => e = .returned (.int .i64 0) ∧ SB w0 w' (XO g { s with v := s.v.take (s.v.length - c), fr := s.fr ++ [⟨a, b, s.v.drop (s.v.length - c) ++ List.replicate d 0, ((s.v.length - c : Nat) : Int)⟩] } :: L) := by
  obtain ⟨A, c0, Af, cf, s0, s1, s2, hc, hcf, hC⟩ := xo_cells hS
  obtain ⟨m, hm⟩ : ∃ m, s.fr.length = m := ⟨_, rfl⟩
  rw [hm] at s1 h
  have d0 : decide (s.room ≤ (m : Int)) = false := decide_eq_false h
  have d1 : decide ((c : Int) < 0) = false := decide_eq_false (by omega)
  have d2 : decide ((d : Int) < 0) = false := decide_eq_false (by omega)
  have HT := Aside0.mk (fun nd => xTakeOk (hS.drewN nd) hI hB hF c h2)
  have hvl := hI.vl
  obtain ⟨k, hk⟩ : ∃ k, s.v.length - c = k := ⟨_, rfl⟩
  have hkl : k ≤ s.v.length := by omega
  rw [hk] at HT ⊢
  have hm64 : m ≤ 64 := by omega
  have hdl : (s.v.drop k).length ≤ 100000 := by rw [List.length_drop]; omega
  have HM := Aside0.mk hm
  clear hS hC hm hI h2 hk
  go_enter Try.func45, Try.ntmps45
  go_wp2
  go_quiet (fail)
  go_wp2_with (first
    | (go_at_call 44; go_must ((with_reducible refine (HT.out _).mono ?_); rintro e w3 ⟨v3, rfl, hs⟩; have HS3 := Aside0.mk hs; clear hs))
    | ((with_reducible refine gate_builtin (b := .append) (xs := #[.tmp 37, .tmp 38]) rfl ?_); go_must (refine SB.appZeros HS3.out rfl (.tmp 37) (.tmp 38) 22 3 8 .i64 .i64 rfl Try.underlying22 Try.underlying3 info35 (by decide) d rfl rfl (by omega) ?_; intro v7 w7 hs7; have HS7 := Aside0.mk hs7; clear hs7)))
  obtain ⟨A7, c7, rfl, hc7, _⟩ := HS7.out.reads
  obtain ⟨xs7, hxs7⟩ : ∃ xs, s.v.drop k ++ List.replicate d 0 = xs := ⟨_, rfl⟩
  have hs7 := HS7.out
  rw [hxs7] at hs7 ⊢
  obtain ⟨v, vf, z, hz, h1⟩ := hs7.swap.xopen
  obtain ⟨A5, c5, rfl, hc5, _⟩ := (h1.pick2 [1]).reads
  obtain ⟨Af, cf, rfl, hcf, _⟩ := (h1.pick3 [2]).reads
  have hvl5 : (s.v.take k).length = k := by simp; omega
  have hzl : z.length = m := by have := congrArg List.length hz; have := HM.out; simp at *; omega
  have hzl4 : (z.map fm4).length = m := by rw [List.length_map, hzl]
  simp only [hvl5, hzl4] at h1 hc5 hcf
  obtain ⟨lx, hlx⟩ : ∃ l, xs7.length = l := ⟨_, rfl⟩
  rw [hlx] at h1 ⊢
  have h1 := h1.drew
  have hb1 := h1.blk
  have s0 := blk_cell hb1 0
  have s1 := blk_cell hb1 1
  have HDF := Aside0.mk (h1.pick5 [2, 0, 1, 3, 4])
  have HZ := Aside0.mk hz
  have HZL := Aside0.mk hzl4
  have HX7 := Aside0.mk hxs7
  have HLX := Aside0.mk hlx
  clear h1 hb1 HS7 hs7 hz hzl hzl4 hxs7 hlx hc7
  refine rg_startL (n := 19) (S := fun w' => w'.cell? ⟨g, 0, none⟩ = some (.slice A5 k c5)) (bm 19 0) (by kernel_rfl) rfl (by kernel_rfl) (s0) (fun wd hwd hHeld => ?_)
  refine rg_take (i := 0) (N := some 40) (v := ?_) (a' := ?_) (bm 19 1) rfl rfl (by kernel_rfl) (fun _ _ _ h => h) hHeld (Or.inl ⟨by rfl, ?_⟩) ?_ ?_
  rotate_left
  · intro w' hw'
    have s0 := hw'
    go_simp
    with_reducible rfl
  rotate_left
  · simp only [Act.put, List.setIfInBounds_toArray, List.set_cons_zero, List.set_cons_succ]
    rfl
  refine rg_take (i := 1) (N := some 41) (v := ?_) (a' := ?_) (bm 19 3) rfl rfl (by kernel_rfl) (fun _ _ _ h => h) hHeld (Or.inl ⟨by rfl, ?_⟩) ?_ ?_
  rotate_left
  · intro w' hw'
    have s0 := hw'
    go_simp
    with_reducible rfl
  rotate_left
  · simp only [Act.put, List.setIfInBounds_toArray, List.set_cons_zero, List.set_cons_succ]
    rfl
  refine rg_take (i := 2) (N := some 42) (v := ?_) (a' := ?_) (bm 19 7) rfl rfl (by kernel_rfl) (fun _ _ _ h => h) hHeld (Or.inl ⟨by rfl, ?_⟩) ?_ ?_
  rotate_left
  · intro w' hw'
    have s0 := hw'
    go_simp
    with_reducible rfl
  rotate_left
  · simp only [Act.put, List.setIfInBounds_toArray, List.set_cons_zero, List.set_cons_succ]
    rfl
  refine rg_take (i := 3) (N := some 43) (v := ?_) (a' := ?_) (bm 19 15) rfl rfl (by kernel_rfl) (fun _ _ _ h => h) hHeld (Or.inl ⟨by rfl, ?_⟩) ?_ ?_
  rotate_left
  · intro w' hw'
    have s0 := hw'
    go_simp
    with_reducible rfl
  rotate_left
  · simp only [Act.put, List.setIfInBounds_toArray, List.set_cons_zero, List.set_cons_succ]
    rfl
  refine rg_take (i := 5) (N := some 45) (v := ?_) (a' := ?_) (bm 19 47) rfl rfl (by kernel_rfl) (fun _ _ _ h => h) hHeld (Or.inl ⟨by rfl, ?_⟩) ?_ ?_
  rotate_left
  · intro w' hw'
    have s0 := hw'
    go_simp
    with_reducible rfl
  rotate_left
  · simp only [Act.put, List.setIfInBounds_toArray, List.set_cons_zero, List.set_cons_succ]
    rfl
  refine rg_take (i := 6) (N := some 46) (v := ?_) (a' := ?_) (bm 19 111) rfl rfl (by kernel_rfl) (fun _ _ _ h => h) hHeld (Or.inl ⟨by rfl, ?_⟩) ?_ ?_
  rotate_left
  · intro w' hw'
    have s0 := hw'
    go_simp
    with_reducible rfl
  rotate_left
  · simp only [Act.put, List.setIfInBounds_toArray, List.set_cons_zero, List.set_cons_succ]
    rfl
  refine rg_take (i := 7) (N := some 47) (v := ?_) (a' := ?_) (bm 19 239) rfl rfl (by kernel_rfl) (fun _ _ _ h => h) hHeld (Or.inl ⟨by rfl, ?_⟩) ?_ ?_
  rotate_left
  · intro w' hw'
    have s0 := hw'
    go_simp
    with_reducible rfl
  rotate_left
  · simp only [Act.put, List.setIfInBounds_toArray, List.set_cons_zero, List.set_cons_succ]
    rfl
  refine rg_take (i := 8) (N := some 48) (v := ?_) (a' := ?_) (bm 19 495) rfl rfl (by kernel_rfl) (fun _ _ _ h => h) hHeld (Or.inl ⟨by rfl, ?_⟩) ?_ ?_
  rotate_left
  · intro w' hw'
    have s0 := hw'
    go_simp
    with_reducible rfl
  rotate_left
  · simp only [Act.put, List.setIfInBounds_toArray, List.set_cons_zero, List.set_cons_succ]
    rfl
  refine rg_take (i := 9) (N := some 49) (v := ?_) (a' := ?_) (bm 19 1007) rfl rfl (by kernel_rfl) (fun _ _ _ h => h) hHeld (Or.inl ⟨by rfl, ?_⟩) ?_ ?_
  rotate_left
  · intro w' hw'
    have s0 := hw'
    go_simp
    with_reducible rfl
  rotate_left
  · simp only [Act.put, List.setIfInBounds_toArray, List.set_cons_zero, List.set_cons_succ]
    rfl
  refine rg_take (i := 10) (N := some 50) (v := ?_) (a' := ?_) (bm 19 2031) rfl rfl (by kernel_rfl) (fun _ _ _ h => h) hHeld (Or.inl ⟨by rfl, ?_⟩) ?_ ?_
  rotate_left
  · intro w' hw'
    have s0 := hw'
    go_simp
    with_reducible rfl
  rotate_left
  · simp only [Act.put, List.setIfInBounds_toArray, List.set_cons_zero, List.set_cons_succ]
    rfl
  refine rg_take (i := 11) (N := some 51) (v := ?_) (a' := ?_) (bm 19 4079) rfl rfl (by kernel_rfl) (fun _ _ _ h => h) hHeld (Or.inl ⟨by rfl, ?_⟩) ?_ ?_
  rotate_left
  · intro w' hw'
    have s0 := hw'
    go_simp
    with_reducible rfl
  rotate_left
  · simp only [Act.put, List.setIfInBounds_toArray, List.set_cons_zero, List.set_cons_succ]
    rfl
  refine rg_take (i := 12) (N := some 52) (v := ?_) (a' := ?_) (bm 19 8175) rfl rfl (by kernel_rfl) (fun _ _ _ h => h) hHeld (Or.inl ⟨by rfl, ?_⟩) ?_ ?_
  rotate_left
  · intro w' hw'
    have s0 := hw'
    go_simp
    with_reducible rfl
  rotate_left
  · simp only [Act.put, List.setIfInBounds_toArray, List.set_cons_zero, List.set_cons_succ]
    rfl
  refine rg_take (i := 13) (N := some 53) (v := ?_) (a' := ?_) (bm 19 16367) rfl rfl (by kernel_rfl) (fun _ _ _ h => h) hHeld (Or.inl ⟨by rfl, ?_⟩) ?_ ?_
  rotate_left
  · intro w' hw'
    have s0 := hw'
    go_simp
    with_reducible rfl
  rotate_left
  · simp only [Act.put, List.setIfInBounds_toArray, List.set_cons_zero, List.set_cons_succ]
    rfl
  refine rg_ready [4, 14] (by kernel_rfl) (by simp) ?_
  refine rg_one (i := 4) (N := some 44) (bm 19 16383) rfl rfl (by kernel_rfl) (fun K hK => ?_) ?_
  · skip
    first
      | (have hb4 := ((HD.out.pick2 [1]).alloc (.cells #[.int .i64 a, .int .i64 b, .slice A7 lx c7, .int .i64 (k : Int)] 61)).blk; rw [HN14.out] at hb4; have s1 : _ = some (Value.slice Af m cf) := blk_cell hb4 1; have hnew : _ = some (Value.slice A5 k c5) := blk_cell hb4 0; have HN4 := Aside0.mk hnew; clear hnew hb4)
      | (have hb4 := (SB.pick2 (hwd.out ▸ HDF.out) [1]).blk; have s1 : _ = some (Value.slice Af m cf) := blk_cell hb4 1; have hnew : _ = some (Value.slice A5 k c5) := blk_cell hb4 0; have HN4 := Aside0.mk hnew; clear hnew hb4)
    refine value_ (w1 := ?_) (v := ?_) (by rfl) rfl ?_ ?_
    rotate_left 2
    · go_simp
      constructor
      · rfl
      · rfl
    have hnew := HN4.out
    refine hK.out _ _ hnew ?_
    clear hK K
    refine rg_norm (a' := ?_) ?_ ?_
    rotate_left
    · simp only [Act.put, List.setIfInBounds_toArray, List.set_cons_zero, List.set_cons_succ]
      rfl
    clear hHeld
    have hHeld := hnew
    clear hnew
    refine rg_ready [14] (by kernel_rfl) (by simp) ?_
    refine rg_one (i := 14) (N := some 54) (bm 19 32767) rfl rfl (by kernel_rfl) (fun K hK => ?_) rg_nil
    have HD := Aside0.mk (hwd.out ▸ HDF.out)
    go_simp
    obtain ⟨wx4x14r9, hn14⟩ : ∃ W, wd.alloc (.cells #[.int .i64 a, .int .i64 b, .slice A7 lx c7, .int .i64 (k : Int)] 61) = W := ⟨_, rfl⟩
    rw [hn14]
    have hb2 := ((HD.out.pick2 [1]).alloc (.cells #[.int .i64 a, .int .i64 b, .slice A7 lx c7, .int .i64 (k : Int)] 61)).blk
    rw [hn14] at hb2
    have hnew := blk_cell hb2 0
    have HN14 := Aside0.mk hn14
    clear hb2 hn14
    refine hK.out _ _ hnew ?_
    clear hK K
    refine rg_norm (a' := ?_) ?_ ?_
    rotate_left
    · simp only [Act.put, List.setIfInBounds_toArray, List.set_cons_zero, List.set_cons_succ]
      rfl
    clear hHeld
    have hHeld := hnew
    clear hnew
    refine rg_ready [15] (by kernel_rfl) (by simp) ?_
    refine rg_one (i := 15) (N := some 55) (bm 19 65535) rfl rfl (by kernel_rfl) (fun K hK => ?_) rg_nil
    rw [← HN14.out]
    refine SB.app1Step (W := wd) (y := [.int .i64 a, .int .i64 b, .slice A7 lx c7, .int .i64 (k : Int)]) HD.out (by rfl) (.tmp 44) (.tmp 54) 49 (.agg #[.int .i64 0, .int .i64 0, .slice none 0 0, .int .i64 0]) 48 rfl Try.underlying49 info61 rfl (by decide) (by decide) rfl rfl ⟨rfl, rfl, by simp [Value.oneCell']⟩ (by rw [HZL.out]; omega) ?_
    intro v9 wx4x14x15r9 hs9
    obtain ⟨zc, hzc⟩ : ∃ zc : List (List Value), z.map fm4 ++ [[Value.int .i64 a, Value.int .i64 b, Value.slice A7 lx c7, Value.int .i64 (k : Int)]] = zc := ⟨_, rfl⟩
    rw [hzc] at hs9
    have HZC := Aside0.mk hzc
    clear hzc
    obtain ⟨A9, c9, rfl, hc9, _⟩ := hs9.reads
    have hb9 := (hs9.pick2 [1]).blk
    have hnew := blk_cell hb9 0
    have HD9 := Aside0.mk hs9.swap
    clear hs9 hb9
    refine hK.out _ _ hnew ?_
    clear hK K
    refine rg_norm (a' := ?_) ?_ ?_
    rotate_left
    · simp only [Act.put, List.setIfInBounds_toArray, List.set_cons_zero, List.set_cons_succ]
      rfl
    clear hHeld
    have hHeld := hnew
    clear hnew
    refine rg_take (i := 16) (N := some 56) (v := ?_) (a' := ?_) (bm 19 131071) rfl rfl (by kernel_rfl) (fun _ _ _ h => h) hHeld (Or.inl ⟨by rfl, ?_⟩) ?_ ?_
    rotate_left
    · intro w' hw'
      have s0 := hw'
      go_simp
      with_reducible rfl
    rotate_left
    · simp only [Act.put, List.setIfInBounds_toArray, List.set_cons_zero, List.set_cons_succ]
      rfl
    refine rg_take (i := 17) (N := some 57) (v := ?_) (a' := ?_) (bm 19 262143) rfl rfl (by kernel_rfl) (fun _ _ _ h => h) hHeld (Or.inl ⟨by rfl, ?_⟩) ?_ ?_
    rotate_left
    · intro w' hw'
      have s0 := hw'
      go_simp
      with_reducible rfl
    rotate_left
    · simp only [Act.put, List.setIfInBounds_toArray, List.set_cons_zero, List.set_cons_succ]
      rfl
    refine rg_ready [18] (by kernel_rfl) (by simp) ?_
    refine rg_one (i := 18) (N := none) (bm 19 524287) rfl rfl (by kernel_rfl) (fun K hK => ?_) rg_nil
    have hb10 := HD9.out.blk
    have x1 := blk_cell hb10 1
    have f1 := blk_frozen hb10 1
    have h11 := HD9.out.set1 1 (.slice A9 zc.length c9)
    have hb11 := h11.blk
    have hnew := blk_cell hb11 0
    have HD11 := Aside0.mk h11
    clear hb10 h11 hb11
    go_simp
    refine hK.out undef _ hnew ?_
    clear hK K
    refine rg_norm (a' := ?_) ?_ ?_
    rotate_left
    · simp only [Act.put, List.setIfInBounds_toArray, List.set_cons_zero, List.set_cons_succ]
      rfl
    clear hHeld
    have hHeld := hnew
    clear hnew
    refine rg_done (by kernel_rfl) ?_
    go_wp2
    go_ret
    refine ⟨rfl, ?_⟩
    have h12 : SB w0 _ (Sep (rowsOf z ++ [Row (Kd.int .u64) 35 (.slice A7 lx c7) xs7]) :: Box g #[.slice A5 k c5, .slice A9 zc.length c9, .int .i64 s.room] 56 :: Row (Kd.int .u64) 35 (.slice A5 k c5) (s.v.take k) :: Row (Kd.raw 4) 61 (.slice A9 zc.length c9) zc :: L) := SB.sepPush (HD11.out.pick5 [4, 3, 0, 2, 1])
    have h13 := h12.pick4 [1, 2, 3, 0]
    have e2 : rowsOf (z ++ [((⟨a, b, xs7, (k : Int)⟩ : Fm), Value.slice A7 lx c7)]) = rowsOf z ++ [Row (Kd.int .u64) 35 (.slice A7 lx c7) xs7] := rowsOf_push _ _
    have e3 : (z ++ [((⟨a, b, xs7, (k : Int)⟩ : Fm), Value.slice A7 lx c7)]).map fm4 = zc := by rw [List.map_append, ← HZC.out]; rfl
    obtain ⟨ln, hln⟩ : ∃ n, zc.length = n := ⟨_, rfl⟩
    rw [hln] at h13 ⊢
    rw [← e2, ← e3] at h13
    rw [HX7.out]
    have h14 := SB.xclose (s := { s with v := s.v.take k, fr := s.fr ++ [⟨a, b, xs7, (k : Int)⟩] }) (by rw [List.map_append, HZ.out]; rfl) h13
    exact h14
  refine rg_one (i := 14) (N := some 54) (bm 19 32751) rfl rfl (by kernel_rfl) (fun K hK => ?_) ?_
  · skip
    have HD := Aside0.mk (hwd.out ▸ HDF.out)
    go_simp
    obtain ⟨wx14r9, hn14⟩ : ∃ W, wd.alloc (.cells #[.int .i64 a, .int .i64 b, .slice A7 lx c7, .int .i64 (k : Int)] 61) = W := ⟨_, rfl⟩
    rw [hn14]
    have hb2 := ((HD.out.pick2 [1]).alloc (.cells #[.int .i64 a, .int .i64 b, .slice A7 lx c7, .int .i64 (k : Int)] 61)).blk
    rw [hn14] at hb2
    have hnew := blk_cell hb2 0
    have HN14 := Aside0.mk hn14
    clear hb2 hn14
    refine hK.out _ _ hnew ?_
    clear hK K
    refine rg_norm (a' := ?_) ?_ ?_
    rotate_left
    · simp only [Act.put, List.setIfInBounds_toArray, List.set_cons_zero, List.set_cons_succ]
      rfl
    clear hHeld
    have hHeld := hnew
    clear hnew
    refine rg_ready [4] (by kernel_rfl) (by simp) ?_
    refine rg_one (i := 4) (N := some 44) (bm 19 32767) rfl rfl (by kernel_rfl) (fun K hK => ?_) rg_nil
    first
      | (have hb4 := ((HD.out.pick2 [1]).alloc (.cells #[.int .i64 a, .int .i64 b, .slice A7 lx c7, .int .i64 (k : Int)] 61)).blk; rw [HN14.out] at hb4; have s1 : _ = some (Value.slice Af m cf) := blk_cell hb4 1; have hnew : _ = some (Value.slice A5 k c5) := blk_cell hb4 0; have HN4 := Aside0.mk hnew; clear hnew hb4)
      | (have hb4 := (SB.pick2 (hwd.out ▸ HDF.out) [1]).blk; have s1 : _ = some (Value.slice Af m cf) := blk_cell hb4 1; have hnew : _ = some (Value.slice A5 k c5) := blk_cell hb4 0; have HN4 := Aside0.mk hnew; clear hnew hb4)
    refine value_ (w1 := ?_) (v := ?_) (by rfl) rfl ?_ ?_
    rotate_left 2
    · go_simp
      constructor
      · rfl
      · rfl
    have hnew := HN4.out
    refine hK.out _ _ hnew ?_
    clear hK K
    refine rg_norm (a' := ?_) ?_ ?_
    rotate_left
    · simp only [Act.put, List.setIfInBounds_toArray, List.set_cons_zero, List.set_cons_succ]
      rfl
    clear hHeld
    have hHeld := hnew
    clear hnew
    refine rg_ready [15] (by kernel_rfl) (by simp) ?_
    refine rg_one (i := 15) (N := some 55) (bm 19 65535) rfl rfl (by kernel_rfl) (fun K hK => ?_) rg_nil
    rw [← HN14.out]
    refine SB.app1Step (W := wd) (y := [.int .i64 a, .int .i64 b, .slice A7 lx c7, .int .i64 (k : Int)]) HD.out (by rfl) (.tmp 44) (.tmp 54) 49 (.agg #[.int .i64 0, .int .i64 0, .slice none 0 0, .int .i64 0]) 48 rfl Try.underlying49 info61 rfl (by decide) (by decide) rfl rfl ⟨rfl, rfl, by simp [Value.oneCell']⟩ (by rw [HZL.out]; omega) ?_
    intro v9 wx14x4x15r9 hs9
    obtain ⟨zc, hzc⟩ : ∃ zc : List (List Value), z.map fm4 ++ [[Value.int .i64 a, Value.int .i64 b, Value.slice A7 lx c7, Value.int .i64 (k : Int)]] = zc := ⟨_, rfl⟩
    rw [hzc] at hs9
    have HZC := Aside0.mk hzc
    clear hzc
    obtain ⟨A9, c9, rfl, hc9, _⟩ := hs9.reads
    have hb9 := (hs9.pick2 [1]).blk
    have hnew := blk_cell hb9 0
    have HD9 := Aside0.mk hs9.swap
    clear hs9 hb9
    refine hK.out _ _ hnew ?_
    clear hK K
    refine rg_norm (a' := ?_) ?_ ?_
    rotate_left
    · simp only [Act.put, List.setIfInBounds_toArray, List.set_cons_zero, List.set_cons_succ]
      rfl
    clear hHeld
    have hHeld := hnew
    clear hnew
    refine rg_take (i := 16) (N := some 56) (v := ?_) (a' := ?_) (bm 19 131071) rfl rfl (by kernel_rfl) (fun _ _ _ h => h) hHeld (Or.inl ⟨by rfl, ?_⟩) ?_ ?_
    rotate_left
    · intro w' hw'
      have s0 := hw'
      go_simp
      with_reducible rfl
    rotate_left
    · simp only [Act.put, List.setIfInBounds_toArray, List.set_cons_zero, List.set_cons_succ]
      rfl
    refine rg_take (i := 17) (N := some 57) (v := ?_) (a' := ?_) (bm 19 262143) rfl rfl (by kernel_rfl) (fun _ _ _ h => h) hHeld (Or.inl ⟨by rfl, ?_⟩) ?_ ?_
    rotate_left
    · intro w' hw'
      have s0 := hw'
      go_simp
      with_reducible rfl
    rotate_left
    · simp only [Act.put, List.setIfInBounds_toArray, List.set_cons_zero, List.set_cons_succ]
      rfl
    refine rg_ready [18] (by kernel_rfl) (by simp) ?_
    refine rg_one (i := 18) (N := none) (bm 19 524287) rfl rfl (by kernel_rfl) (fun K hK => ?_) rg_nil
    have hb10 := HD9.out.blk
    have x1 := blk_cell hb10 1
    have f1 := blk_frozen hb10 1
    have h11 := HD9.out.set1 1 (.slice A9 zc.length c9)
    have hb11 := h11.blk
    have hnew := blk_cell hb11 0
    have HD11 := Aside0.mk h11
    clear hb10 h11 hb11
    go_simp
    refine hK.out undef _ hnew ?_
    clear hK K
    refine rg_norm (a' := ?_) ?_ ?_
    rotate_left
    · simp only [Act.put, List.setIfInBounds_toArray, List.set_cons_zero, List.set_cons_succ]
      rfl
    clear hHeld
    have hHeld := hnew
    clear hnew
    refine rg_done (by kernel_rfl) ?_
    go_wp2
    go_ret
    refine ⟨rfl, ?_⟩
    have h12 : SB w0 _ (Sep (rowsOf z ++ [Row (Kd.int .u64) 35 (.slice A7 lx c7) xs7]) :: Box g #[.slice A5 k c5, .slice A9 zc.length c9, .int .i64 s.room] 56 :: Row (Kd.int .u64) 35 (.slice A5 k c5) (s.v.take k) :: Row (Kd.raw 4) 61 (.slice A9 zc.length c9) zc :: L) := SB.sepPush (HD11.out.pick5 [4, 3, 0, 2, 1])
    have h13 := h12.pick4 [1, 2, 3, 0]
    have e2 : rowsOf (z ++ [((⟨a, b, xs7, (k : Int)⟩ : Fm), Value.slice A7 lx c7)]) = rowsOf z ++ [Row (Kd.int .u64) 35 (.slice A7 lx c7) xs7] := rowsOf_push _ _
    have e3 : (z ++ [((⟨a, b, xs7, (k : Int)⟩ : Fm), Value.slice A7 lx c7)]).map fm4 = zc := by rw [List.map_append, ← HZC.out]; rfl
    obtain ⟨ln, hln⟩ : ∃ n, zc.length = n := ⟨_, rfl⟩
    rw [hln] at h13 ⊢
    rw [← e2, ← e3] at h13
    rw [HX7.out]
    have h14 := SB.xclose (s := { s with v := s.v.take k, fr := s.fr ++ [⟨a, b, xs7, (k : Int)⟩] }) (by rw [List.map_append, HZ.out]; rfl) h13
    exact h14
  exact rg_nil
theorem xLeaveNo {w0 w : World} {L : List As} {g : Nat} {s : FS} {B : Nat} (hS : SB w0 w (XO g s :: L)) (hI : Inv s B) (hB : B ≤ 100000) (hF : s.fr.length ≤ 64) (c : Int) (hc2 : -9223372036854775808 ≤ c ∧ c < 9223372036854775808) (h : s.fr = [] ∨ ¬ hasN s c) :
    Calls Try.prog 46 #[.pointer (some ⟨g, 0, none⟩), .int .i64 c] w fun e w' => e = .returned (.bool false) ∧ SB w0 w' (XO g s :: L) := by
  obtain ⟨A, c0, Af, cf, s0, s1, s2, hc, hcf, hC⟩ := xo_cells hS
  by_cases hf : s.fr = []
  · rw [hf] at s1
    have HS := Aside0.mk hS
    clear hS hC hI h hc hcf
    go_enter Try.func46, Try.ntmps46
    go_wp2
    go_ret
    exact ⟨rfl, HS.out⟩
  · have HT := Aside0.mk (xTakeNo hS hI hB hF c (h.resolve_left hf) hc2)
    obtain ⟨m, hm⟩ : ∃ m, s.fr.length = m + 1 := ⟨s.fr.length - 1, by have := List.length_pos_iff.2 hf; omega⟩
    rw [hm] at s1
    clear hS hC hI h hm hf hc hcf
    go_enter Try.func46, Try.ntmps46
    go_wp2_with (go_at_call 44; go_must ((with_reducible refine (HT.out).mono ?_); rintro e w3 ⟨rfl, hs⟩; have HS3 := Aside0.mk hs; clear hs))
    go_ret
    exact ⟨rfl, HS3.out⟩
set_option maxHeartbeats 4000000 in
theorem xLeaveOk {w0 w : World} {L : List As} {g : Nat} {s : FS} {B : Nat} (hS : SB w0 w (XO g s :: L)) (hI : Inv s B) (hB : B ≤ 100000) (hF : s.fr.length ≤ 64) (c : Nat) (hf : s.fr ≠ []) (h2 : hasN s c) :
    Calls Try.prog 46 #[.pointer (some ⟨g, 0, none⟩), .int .i64 c] w fun e w' => e = .returned (.bool true) ∧ SB w0 w' (XO g { s with v := s.v.take (baseOf s.fr).toNat ++ s.v.drop (s.v.length - c), fr := s.fr.dropLast } :: L) := by
  obtain ⟨A, c0, Af, cf, s0, s1, s2, hc, hcf, hC⟩ := xo_cells hS
  have HT := Aside0.mk (xTakeOk hS hI hB hF c h2)
  obtain ⟨n, hn⟩ : ∃ n, s.fr.length = n + 1 := ⟨s.fr.length - 1, by have := List.length_pos_iff.2 hf; omega⟩
  rw [hn] at s1
  have hbase := hI.base
  have hvl := hI.vl
  obtain ⟨b, hb⟩ := Int.eq_ofNat_of_zero_le hbase.1
  obtain ⟨m, hm⟩ : ∃ m, s.v.length - c = m := ⟨_, rfl⟩
  have hbm : b ≤ m := by have := h2.2; omega
  have hml : m ≤ s.v.length := by omega
  have hn64 : n + 1 ≤ 64 := by omega
  rw [hm] at HT ⊢
  rw [hb, Int.toNat_natCast]
  have hwn : IntKind.i64.wrap (n : Int) = (n : Int) := by rw [IntKind.wrap_i64]; omega
  have HN := Aside0.mk hn
  have HB := Aside0.mk hb
  clear hS hI h2 hf hn hm hbase hC hb hc hcf
  go_enter Try.func46, Try.ntmps46
  go_wp2_with (go_at_call 44; go_must ((with_reducible refine (HT.out).mono ?_); rintro e w3 ⟨v3, rfl, hs⟩; have HS3 := Aside0.mk hs; clear hs))
  obtain ⟨v, vf, z, hz, h1⟩ := HS3.out.swap.xopen
  obtain ⟨A5, c5, rfl, hc5, _⟩ := (h1.pick2 [1]).reads
  obtain ⟨Af5, cf5, rfl, hcf5, _⟩ := (h1.pick3 [2]).reads
  obtain ⟨A3, c3, rfl, hc3, _⟩ := (h1.pick5 [4]).reads
  have hvl5 : (s.v.take m).length = m := by simp; omega
  have hzl : z.length = n + 1 := by have := congrArg List.length hz; have := HN.out; simp at *; omega
  have hzl4 : (z.map fm4).length = n + 1 := by rw [List.length_map, hzl]
  simp only [hvl5, hzl4] at h1 hc5 hcf5
  obtain ⟨xsL, hxsL⟩ : ∃ xs, s.v.drop m = xs := ⟨_, rfl⟩
  rw [hxsL] at h1 hc3 ⊢
  have hxl : xsL.length ≤ 1000000 := by rw [← hxsL]; simp; omega
  have hcut := cut22 A5 m c5 b hbm hc5
  have HDF := Aside0.mk h1.drew
  have HXL := Aside0.mk hxsL
  have HZ := Aside0.mk hz
  have HZL := Aside0.mk hzl
  clear h1 HS3 hxsL hz hzl hzl4
  refine rg_startL (n := 11) (S := fun w' => True) (bm 11 0) (by kernel_rfl) rfl (by kernel_rfl) (trivial) (fun wd hwd hHeld => ?_)
  refine rg_take (i := 0) (N := some 21) (v := ?_) (a' := ?_) (bm 11 1) rfl rfl (by kernel_rfl) (fun _ _ _ h => h) hHeld (Or.inl ⟨by rfl, ?_⟩) ?_ ?_
  rotate_left
  · intro w' hw'
    go_simp
    with_reducible rfl
  rotate_left
  · simp only [Act.put, List.setIfInBounds_toArray, List.set_cons_zero, List.set_cons_succ]
    rfl
  refine rg_take (i := 1) (N := some 22) (v := ?_) (a' := ?_) (bm 11 3) rfl rfl (by kernel_rfl) (fun _ _ _ h => h) hHeld (Or.inl ⟨by rfl, ?_⟩) ?_ ?_
  rotate_left
  · intro w' hw'
    go_simp
    with_reducible rfl
  rotate_left
  · simp only [Act.put, List.setIfInBounds_toArray, List.set_cons_zero, List.set_cons_succ]
    rfl
  refine rg_take (i := 2) (N := some 23) (v := ?_) (a' := ?_) (bm 11 7) rfl rfl (by kernel_rfl) (fun _ _ _ h => h) hHeld (Or.inl ⟨by rfl, ?_⟩) ?_ ?_
  rotate_left
  · intro w' hw'
    go_simp
    with_reducible rfl
  rotate_left
  · simp only [Act.put, List.setIfInBounds_toArray, List.set_cons_zero, List.set_cons_succ]
    rfl
  refine rg_take (i := 3) (N := some 24) (v := ?_) (a' := ?_) (bm 11 15) rfl rfl (by kernel_rfl) (fun _ _ _ h => h) hHeld (Or.inl ⟨by rfl, ?_⟩) ?_ ?_
  rotate_left
  · intro w' hw'
    go_simp
    with_reducible rfl
  rotate_left
  · simp only [Act.put, List.setIfInBounds_toArray, List.set_cons_zero, List.set_cons_succ]
    rfl
  refine rg_take (i := 5) (N := some 26) (v := ?_) (a' := ?_) (bm 11 47) rfl rfl (by kernel_rfl) (fun _ _ _ h => h) hHeld (Or.inl ⟨by rfl, ?_⟩) ?_ ?_
  rotate_left
  · intro w' hw'
    go_simp
    with_reducible rfl
  rotate_left
  · simp only [Act.put, List.setIfInBounds_toArray, List.set_cons_zero, List.set_cons_succ]
    rfl
  refine rg_ready [4, 6] (by kernel_rfl) (by simp) ?_
  refine rg_one (i := 4) (N := some 25) (bm 11 63) rfl rfl (by kernel_rfl) (fun K hK => ?_) ?_
  · skip
    first
      | (have hb4 := HD6.out.blk; have s0 : _ = some (Value.slice A5 m c5) := blk_cell hb4 0; clear hb4)
      | (have hb4 := (SB.pick2 (hwd.out ▸ HDF.out) [0]).blk; have s0 : _ = some (Value.slice A5 m c5) := blk_cell hb4 0; clear hb4)
    refine value_ (w1 := ?_) (v := ?_) (by rfl) rfl ?_ ?_
    rotate_left 2
    · go_simp
      constructor
      · rfl
      · rfl
    have hnew : True := trivial
    refine hK.out _ _ hnew ?_
    clear hK K
    refine rg_norm (a' := ?_) ?_ ?_
    rotate_left
    · simp only [Act.put, List.setIfInBounds_toArray, List.set_cons_zero, List.set_cons_succ]
      rfl
    clear hHeld
    have hHeld := hnew
    clear hnew
    refine rg_ready [6] (by kernel_rfl) (by simp) ?_
    refine rg_one (i := 6) (N := some 27) (bm 11 127) rfl rfl (by kernel_rfl) (fun K hK => ?_) rg_nil
    have HD := Aside0.mk (hwd.out ▸ HDF.out)
    have hq := Aside0.mk (xBase0 (SB.xclose (s := { s with v := s.v.take m }) HZ.out HD.out) (by rw [show (FS.mk (s.v.take m) s.fr s.room).fr.length = n + 1 from HN.out]; omega))
    rw [show baseOf (FS.mk (s.v.take m) s.fr s.room).fr = (b : Int) from HB.out] at hq
    go_simp
    go_at_call 52
    with_reducible refine (hq.out).mono ?_
    rintro e wx4x6r6 ⟨rfl, ⟨nd6, rfl⟩⟩
    have HD6 := Aside0.mk (HD.out.drewN nd6)
    have hnew : True := trivial
    clear hq
    go_wp2_with fail
    refine hK.out _ _ hnew ?_
    clear hK K
    refine rg_norm (a' := ?_) ?_ ?_
    rotate_left
    · simp only [Act.put, List.setIfInBounds_toArray, List.set_cons_zero, List.set_cons_succ]
      rfl
    clear hHeld
    have hHeld := hnew
    clear hnew
    refine rg_take (i := 7) (N := some 28) (v := ?_) (a' := ?_) (bm 11 255) rfl rfl (by kernel_rfl) (fun _ _ _ h => h) hHeld (Or.inl ⟨by rfl, ?_⟩) ?_ ?_
    rotate_left
    · intro w' hw'
      go_simp
      with_reducible rfl
    rotate_left
    · simp only [Act.put, List.setIfInBounds_toArray, List.set_cons_zero, List.set_cons_succ]
      rfl
    refine rg_take (i := 8) (N := some 29) (v := ?_) (a' := ?_) (bm 11 511) rfl rfl (by kernel_rfl) (fun _ _ _ h => h) hHeld (Or.inl ⟨by rfl, ?_⟩) ?_ ?_
    rotate_left
    · intro w' hw'
      go_simp
      with_reducible rfl
    rotate_left
    · simp only [Act.put, List.setIfInBounds_toArray, List.set_cons_zero, List.set_cons_succ]
      rfl
    refine rg_take (i := 9) (N := some 30) (v := ?_) (a' := ?_) (bm 11 1023) rfl rfl (by kernel_rfl) (fun _ _ _ h => h) hHeld (Or.inl ⟨by rfl, ?_⟩) ?_ ?_
    rotate_left
    · intro w' hw'
      go_simp
      with_reducible rfl
    rotate_left
    · simp only [Act.put, List.setIfInBounds_toArray, List.set_cons_zero, List.set_cons_succ]
      rfl
    refine rg_ready [10] (by kernel_rfl) (by simp) ?_
    refine rg_one (i := 10) (N := none) (bm 11 2047) rfl rfl (by kernel_rfl) (fun K hK => ?_) rg_nil
    have hb10 := HD6.out.blk
    have x0 := blk_cell hb10 0
    have f0 := blk_frozen hb10 0
    have HD10 := Aside0.mk (HD6.out.set1 0 (.slice A5 b c5))
    have hnew : True := trivial
    clear hb10
    go_simp
    refine hK.out undef _ hnew ?_
    clear hK K
    refine rg_norm (a' := ?_) ?_ ?_
    rotate_left
    · simp only [Act.put, List.setIfInBounds_toArray, List.set_cons_zero, List.set_cons_succ]
      rfl
    clear hHeld
    have hHeld := hnew
    clear hnew
    refine rg_done (by kernel_rfl) ?_
    have hb11 := HD10.out.blk
    have y0 := blk_cell hb11 0
    have hq1 := SB.rowTake (HD10.out.pick5 [1, 0, 2, 3, 4]) b (by rw [hvl5]; exact hbm)
    have htk : (s.v.take m).take b = s.v.take b := by rw [List.take_take, Nat.min_eq_left hbm]
    rw [htk] at hq1
    obtain ⟨AL', cL', eL, hcL, hCL⟩ := (hq1.pick5 [4]).reads
    injection eL with eL1 eL2 eL3
    clear eL2
    subst eL1
    subst eL3
    have hbl : (s.v.take b).length ≤ 100000 := by simp; omega
    have HQ1 := Aside0.mk hq1
    have HCL := Aside0.mk hCL
    clear hq1 hCL hb11 htk
    go_wp2_with ((with_reducible refine gate_builtin (b := .append) (xs := #[.tmp 35, .tmp 36]) rfl ?_); at_builtin; go_must ((refine SB.appRows (ys := xsL) HQ1.out rfl (.tmp 35) (.tmp 36) 22 (.int .u64 0) 8 rfl Try.underlying22 info35 rfl (by decide) (by decide) rfl rfl (fun _ _ h => h) HCL.out (by omega) ?_); intro v12 w12 hs12; obtain ⟨A12, c12, rfl, _, _⟩ := hs12.reads; obtain ⟨xs12, hx12⟩ : ∃ xs, s.v.take b ++ xsL = xs := ⟨_, rfl⟩; rw [hx12] at hs12 ⊢; have HX12 := Aside0.mk hx12; have hb12 := (hs12.pick2 [1]).blk; have z0 := blk_cell hb12 0; have z1 := blk_frozen hb12 0; have HS12 := Aside0.mk (show SB w0 _ (Box g #[.slice A12 xs12.length c12, .slice Af5 (n + 1) cf5, .int .i64 s.room] 56 :: Row (Kd.int .u64) 35 (.slice A12 xs12.length c12) xs12 :: Row (Kd.raw 4) 61 (.slice Af5 (n + 1) cf5) (z.map fm4) :: Sep (rowsOf z) :: L) from (((hs12.pick2 [1, 0]).set1 0 (.slice A12 xs12.length c12)).drew).pick5 [0, 1, 2, 3]); clear hs12 hb12 hx12))
    have hcut9 := cut49 Af5 (n + 1) cf5 n (by omega) hcf5
    refine rg_startL (n := 15) (S := fun w' => True) (bm 15 0) (by kernel_rfl) rfl (by kernel_rfl) (trivial) (fun we hwe hHeld => ?_)
    refine rg_take (i := 0) (N := some 40) (v := ?_) (a' := ?_) (bm 15 1) rfl rfl (by kernel_rfl) (fun _ _ _ h => h) hHeld (Or.inl ⟨by rfl, ?_⟩) ?_ ?_
    rotate_left
    · intro w' hw'
      have hw3' := hwn
      go_simp
      with_reducible rfl
    rotate_left
    · simp only [Act.put, List.setIfInBounds_toArray, List.set_cons_zero, List.set_cons_succ]
      rfl
    refine rg_take (i := 1) (N := some 41) (v := ?_) (a' := ?_) (bm 15 3) rfl rfl (by kernel_rfl) (fun _ _ _ h => h) hHeld (Or.inl ⟨by rfl, ?_⟩) ?_ ?_
    rotate_left
    · intro w' hw'
      have hw3' := hwn
      go_simp
      with_reducible rfl
    rotate_left
    · simp only [Act.put, List.setIfInBounds_toArray, List.set_cons_zero, List.set_cons_succ]
      rfl
    refine rg_take (i := 2) (N := some 42) (v := ?_) (a' := ?_) (bm 15 7) rfl rfl (by kernel_rfl) (fun _ _ _ h => h) hHeld (Or.inl ⟨by rfl, ?_⟩) ?_ ?_
    rotate_left
    · intro w' hw'
      have hw3' := hwn
      go_simp
      with_reducible rfl
    rotate_left
    · simp only [Act.put, List.setIfInBounds_toArray, List.set_cons_zero, List.set_cons_succ]
      rfl
    refine rg_take (i := 3) (N := some 43) (v := ?_) (a' := ?_) (bm 15 15) rfl rfl (by kernel_rfl) (fun _ _ _ h => h) hHeld (Or.inl ⟨by rfl, ?_⟩) ?_ ?_
    rotate_left
    · intro w' hw'
      have hw3' := hwn
      go_simp
      with_reducible rfl
    rotate_left
    · simp only [Act.put, List.setIfInBounds_toArray, List.set_cons_zero, List.set_cons_succ]
      rfl
    refine rg_take (i := 5) (N := some 45) (v := ?_) (a' := ?_) (bm 15 47) rfl rfl (by kernel_rfl) (fun _ _ _ h => h) hHeld (Or.inl ⟨by rfl, ?_⟩) ?_ ?_
    rotate_left
    · intro w' hw'
      have hw3' := hwn
      go_simp
      with_reducible rfl
    rotate_left
    · simp only [Act.put, List.setIfInBounds_toArray, List.set_cons_zero, List.set_cons_succ]
      rfl
    refine rg_take (i := 6) (N := some 46) (v := ?_) (a' := ?_) (bm 15 111) rfl rfl (by kernel_rfl) (fun _ _ _ h => h) hHeld (Or.inl ⟨by rfl, ?_⟩) ?_ ?_
    rotate_left
    · intro w' hw'
      have hw3' := hwn
      go_simp
      with_reducible rfl
    rotate_left
    · simp only [Act.put, List.setIfInBounds_toArray, List.set_cons_zero, List.set_cons_succ]
      rfl
    refine rg_take (i := 7) (N := some 47) (v := ?_) (a' := ?_) (bm 15 239) rfl rfl (by kernel_rfl) (fun _ _ _ h => h) hHeld (Or.inl ⟨by rfl, ?_⟩) ?_ ?_
    rotate_left
    · intro w' hw'
      have hw3' := hwn
      go_simp
      with_reducible rfl
    rotate_left
    · simp only [Act.put, List.setIfInBounds_toArray, List.set_cons_zero, List.set_cons_succ]
      rfl
    refine rg_ready [4, 8] (by kernel_rfl) (by simp) ?_
    refine rg_one (i := 4) (N := some 44) (bm 15 255) rfl rfl (by kernel_rfl) (fun K hK => ?_) ?_
    · skip
      have hb4 := SB.blk (hwe.out ▸ HS12.out)
      have t1 : _ = some (Value.slice Af5 (n + 1) cf5) := blk_cell hb4 1
      clear hb4
      refine value_ (w1 := ?_) (v := ?_) (by rfl) rfl ?_ ?_
      rotate_left 2
      · go_simp
        constructor
        · rfl
        · rfl
      have hnew : True := trivial
      refine hK.out _ _ hnew ?_
      clear hK K
      refine rg_norm (a' := ?_) ?_ ?_
      rotate_left
      · simp only [Act.put, List.setIfInBounds_toArray, List.set_cons_zero, List.set_cons_succ]
        rfl
      clear hHeld
      have hHeld := hnew
      clear hnew
      refine rg_ready [8] (by kernel_rfl) (by simp) ?_
      refine rg_one (i := 8) (N := some 48) (bm 15 511) rfl rfl (by kernel_rfl) (fun K hK => ?_) rg_nil
      have hb4 := SB.blk (hwe.out ▸ HS12.out)
      have t1 : _ = some (Value.slice Af5 (n + 1) cf5) := blk_cell hb4 1
      clear hb4
      refine value_ (w1 := ?_) (v := ?_) (by rfl) rfl ?_ ?_
      rotate_left 2
      · go_simp
        constructor
        · rfl
        · rfl
      have hnew : True := trivial
      refine hK.out _ _ hnew ?_
      clear hK K
      refine rg_norm (a' := ?_) ?_ ?_
      rotate_left
      · simp only [Act.put, List.setIfInBounds_toArray, List.set_cons_zero, List.set_cons_succ]
        rfl
      clear hHeld
      have hHeld := hnew
      clear hnew
      refine rg_take (i := 9) (N := some 49) (v := ?_) (a' := ?_) (bm 15 1023) rfl rfl (by kernel_rfl) (fun _ _ _ h => h) hHeld (Or.inl ⟨by rfl, ?_⟩) ?_ ?_
      rotate_left
      · intro w' hw'
        have hw3' := hwn
        go_simp
        with_reducible rfl
      rotate_left
      · simp only [Act.put, List.setIfInBounds_toArray, List.set_cons_zero, List.set_cons_succ]
        rfl
      refine rg_take (i := 10) (N := some 50) (v := ?_) (a' := ?_) (bm 15 2047) rfl rfl (by kernel_rfl) (fun _ _ _ h => h) hHeld (Or.inl ⟨by rfl, ?_⟩) ?_ ?_
      rotate_left
      · intro w' hw'
        have hw3' := hwn
        go_simp
        with_reducible rfl
      rotate_left
      · simp only [Act.put, List.setIfInBounds_toArray, List.set_cons_zero, List.set_cons_succ]
        rfl
      refine rg_take (i := 11) (N := some 51) (v := ?_) (a' := ?_) (bm 15 4095) rfl rfl (by kernel_rfl) (fun _ _ _ h => h) hHeld (Or.inl ⟨by rfl, ?_⟩) ?_ ?_
      rotate_left
      · intro w' hw'
        have hw3' := hwn
        go_simp
        with_reducible rfl
      rotate_left
      · simp only [Act.put, List.setIfInBounds_toArray, List.set_cons_zero, List.set_cons_succ]
        rfl
      refine rg_take (i := 12) (N := some 52) (v := ?_) (a' := ?_) (bm 15 8191) rfl rfl (by kernel_rfl) (fun _ _ _ h => h) hHeld (Or.inl ⟨by rfl, ?_⟩) ?_ ?_
      rotate_left
      · intro w' hw'
        have hw3' := hwn
        go_simp
        with_reducible rfl
      rotate_left
      · simp only [Act.put, List.setIfInBounds_toArray, List.set_cons_zero, List.set_cons_succ]
        rfl
      refine rg_take (i := 13) (N := some 53) (v := ?_) (a' := ?_) (bm 15 16383) rfl rfl (by kernel_rfl) (fun _ _ _ h => h) hHeld (Or.inl ⟨by rfl, ?_⟩) ?_ ?_
      rotate_left
      · intro w' hw'
        have hw3' := hwn
        go_simp
        with_reducible rfl
      rotate_left
      · simp only [Act.put, List.setIfInBounds_toArray, List.set_cons_zero, List.set_cons_succ]
        rfl
      refine rg_ready [14] (by kernel_rfl) (by simp) ?_
      refine rg_one (i := 14) (N := none) (bm 15 32767) rfl rfl (by kernel_rfl) (fun K hK => ?_) rg_nil
      have hh : SB w0 we (Box g #[.slice A12 xs12.length c12, .slice Af5 (n + 1) cf5, .int .i64 s.room] 56 :: Row (Kd.int .u64) 35 (.slice A12 xs12.length c12) xs12 :: Row (Kd.raw 4) 61 (.slice Af5 (n + 1) cf5) (z.map fm4) :: Sep (rowsOf z) :: L) := hwe.out ▸ HS12.out
      have hb5 := hh.blk
      have x1 := blk_cell hb5 1
      have f1 := blk_frozen hb5 1
      have HD14 := Aside0.mk (hh.set1 1 (.slice Af5 n cf5))
      have hnew : True := trivial
      clear hb5 hh
      go_simp
      refine hK.out undef _ hnew ?_
      clear hK K
      refine rg_norm (a' := ?_) ?_ ?_
      rotate_left
      · simp only [Act.put, List.setIfInBounds_toArray, List.set_cons_zero, List.set_cons_succ]
        rfl
      clear hHeld
      have hHeld := hnew
      clear hnew
      refine rg_done (by kernel_rfl) ?_
      go_wp2
      go_ret
      refine ⟨rfl, ?_⟩
      have h15 := HD14.out
      obtain ⟨z0, x, hzx⟩ : ∃ z0 x, z = z0 ++ [x] := by
        rcases List.eq_nil_or_concat z with h | ⟨z0, x, h⟩
        · have := HZL.out; rw [h] at this; simp at this
        · exact ⟨z0, x, by rw [h, List.concat_eq_append]⟩
      subst hzx
      have hz0 : z0.length = n := by have := HZL.out; simp at this; exact this
      have h16 := SB.rowTake (h15.pick3 [2, 0, 1]) n (by simp; omega)
      rw [show ((z0 ++ [x]).map fm4).take n = z0.map fm4 by rw [List.map_append, ← hz0, ← List.length_map (f := fm4), List.take_left]] at h16
      rw [rowsOf_push] at h16
      have h17 := SB.sepPop (h16.pick4 [3, 0, 1, 2])
      have hzm : s.fr.dropLast = z0.map Prod.fst := by rw [← show List.map Prod.fst (z0 ++ [x]) = s.fr from HZ.out, List.map_append]; simp
      rw [HXL.out, HX12.out]
      exact SB.xclose (s := { s with v := xs12, fr := s.fr.dropLast }) hzm.symm (h17.pick5 [3, 4, 2, 1])
    refine rg_one (i := 8) (N := some 48) (bm 15 495) rfl rfl (by kernel_rfl) (fun K hK => ?_) ?_
    · skip
      have hb4 := SB.blk (hwe.out ▸ HS12.out)
      have t1 : _ = some (Value.slice Af5 (n + 1) cf5) := blk_cell hb4 1
      clear hb4
      refine value_ (w1 := ?_) (v := ?_) (by rfl) rfl ?_ ?_
      rotate_left 2
      · go_simp
        constructor
        · rfl
        · rfl
      have hnew : True := trivial
      refine hK.out _ _ hnew ?_
      clear hK K
      refine rg_norm (a' := ?_) ?_ ?_
      rotate_left
      · simp only [Act.put, List.setIfInBounds_toArray, List.set_cons_zero, List.set_cons_succ]
        rfl
      clear hHeld
      have hHeld := hnew
      clear hnew
      refine rg_take (i := 9) (N := some 49) (v := ?_) (a' := ?_) (bm 15 1007) rfl rfl (by kernel_rfl) (fun _ _ _ h => h) hHeld (Or.inl ⟨by rfl, ?_⟩) ?_ ?_
      rotate_left
      · intro w' hw'
        have hw3' := hwn
        go_simp
        with_reducible rfl
      rotate_left
      · simp only [Act.put, List.setIfInBounds_toArray, List.set_cons_zero, List.set_cons_succ]
        rfl
      refine rg_take (i := 10) (N := some 50) (v := ?_) (a' := ?_) (bm 15 2031) rfl rfl (by kernel_rfl) (fun _ _ _ h => h) hHeld (Or.inl ⟨by rfl, ?_⟩) ?_ ?_
      rotate_left
      · intro w' hw'
        have hw3' := hwn
        go_simp
        with_reducible rfl
      rotate_left
      · simp only [Act.put, List.setIfInBounds_toArray, List.set_cons_zero, List.set_cons_succ]
        rfl
      refine rg_ready [4] (by kernel_rfl) (by simp) ?_
      refine rg_one (i := 4) (N := some 44) (bm 15 2047) rfl rfl (by kernel_rfl) (fun K hK => ?_) rg_nil
      have hb4 := SB.blk (hwe.out ▸ HS12.out)
      have t1 : _ = some (Value.slice Af5 (n + 1) cf5) := blk_cell hb4 1
      clear hb4
      refine value_ (w1 := ?_) (v := ?_) (by rfl) rfl ?_ ?_
      rotate_left 2
      · go_simp
        constructor
        · rfl
        · rfl
      have hnew : True := trivial
      refine hK.out _ _ hnew ?_
      clear hK K
      refine rg_norm (a' := ?_) ?_ ?_
      rotate_left
      · simp only [Act.put, List.setIfInBounds_toArray, List.set_cons_zero, List.set_cons_succ]
        rfl
      clear hHeld
      have hHeld := hnew
      clear hnew
      refine rg_take (i := 11) (N := some 51) (v := ?_) (a' := ?_) (bm 15 4095) rfl rfl (by kernel_rfl) (fun _ _ _ h => h) hHeld (Or.inl ⟨by rfl, ?_⟩) ?_ ?_
      rotate_left
      · intro w' hw'
        have hw3' := hwn
        go_simp
        with_reducible rfl
      rotate_left
      · simp only [Act.put, List.setIfInBounds_toArray, List.set_cons_zero, List.set_cons_succ]
        rfl
      refine rg_take (i := 12) (N := some 52) (v := ?_) (a' := ?_) (bm 15 8191) rfl rfl (by kernel_rfl) (fun _ _ _ h => h) hHeld (Or.inl ⟨by rfl, ?_⟩) ?_ ?_
      rotate_left
      · intro w' hw'
        have hw3' := hwn
        go_simp
        with_reducible rfl
      rotate_left
      · simp only [Act.put, List.setIfInBounds_toArray, List.set_cons_zero, List.set_cons_succ]
        rfl
      refine rg_take (i := 13) (N := some 53) (v := ?_) (a' := ?_) (bm 15 16383) rfl rfl (by kernel_rfl) (fun _ _ _ h => h) hHeld (Or.inl ⟨by rfl, ?_⟩) ?_ ?_
      rotate_left
      · intro w' hw'
        have hw3' := hwn
        go_simp
        with_reducible rfl
      rotate_left
      · simp only [Act.put, List.setIfInBounds_toArray, List.set_cons_zero, List.set_cons_succ]
        rfl
      refine rg_ready [14] (by kernel_rfl) (by simp) ?_
      refine rg_one (i := 14) (N := none) (bm 15 32767) rfl rfl (by kernel_rfl) (fun K hK => ?_) rg_nil
      have hh : SB w0 we (Box g #[.slice A12 xs12.length c12, .slice Af5 (n + 1) cf5, .int .i64 s.room] 56 :: Row (Kd.int .u64) 35 (.slice A12 xs12.length c12) xs12 :: Row (Kd.raw 4) 61 (.slice Af5 (n + 1) cf5) (z.map fm4) :: Sep (rowsOf z) :: L) := hwe.out ▸ HS12.out
      have hb5 := hh.blk
      have x1 := blk_cell hb5 1
      have f1 := blk_frozen hb5 1
      have HD14 := Aside0.mk (hh.set1 1 (.slice Af5 n cf5))
      have hnew : True := trivial
      clear hb5 hh
      go_simp
      refine hK.out undef _ hnew ?_
      clear hK K
      refine rg_norm (a' := ?_) ?_ ?_
      rotate_left
      · simp only [Act.put, List.setIfInBounds_toArray, List.set_cons_zero, List.set_cons_succ]
        rfl
      clear hHeld
      have hHeld := hnew
      clear hnew
      refine rg_done (by kernel_rfl) ?_
      go_wp2
      go_ret
      refine ⟨rfl, ?_⟩
      have h15 := HD14.out
      obtain ⟨z0, x, hzx⟩ : ∃ z0 x, z = z0 ++ [x] := by
        rcases List.eq_nil_or_concat z with h | ⟨z0, x, h⟩
        · have := HZL.out; rw [h] at this; simp at this
        · exact ⟨z0, x, by rw [h, List.concat_eq_append]⟩
      subst hzx
      have hz0 : z0.length = n := by have := HZL.out; simp at this; exact this
      have h16 := SB.rowTake (h15.pick3 [2, 0, 1]) n (by simp; omega)
      rw [show ((z0 ++ [x]).map fm4).take n = z0.map fm4 by rw [List.map_append, ← hz0, ← List.length_map (f := fm4), List.take_left]] at h16
      rw [rowsOf_push] at h16
      have h17 := SB.sepPop (h16.pick4 [3, 0, 1, 2])
      have hzm : s.fr.dropLast = z0.map Prod.fst := by rw [← show List.map Prod.fst (z0 ++ [x]) = s.fr from HZ.out, List.map_append]; simp
      rw [HXL.out, HX12.out]
      exact SB.xclose (s := { s with v := xs12, fr := s.fr.dropLast }) hzm.symm (h17.pick5 [3, 4, 2, 1])
    exact rg_nil
  refine rg_one (i := 6) (N := some 27) (bm 11 111) rfl rfl (by kernel_rfl) (fun K hK => ?_) ?_
  · skip
    have HD := Aside0.mk (hwd.out ▸ HDF.out)
    have hq := Aside0.mk (xBase0 (SB.xclose (s := { s with v := s.v.take m }) HZ.out HD.out) (by rw [show (FS.mk (s.v.take m) s.fr s.room).fr.length = n + 1 from HN.out]; omega))
    rw [show baseOf (FS.mk (s.v.take m) s.fr s.room).fr = (b : Int) from HB.out] at hq
    go_simp
    go_at_call 52
    with_reducible refine (hq.out).mono ?_
    rintro e wx6r6 ⟨rfl, ⟨nd6, rfl⟩⟩
    have HD6 := Aside0.mk (HD.out.drewN nd6)
    have hnew : True := trivial
    clear hq
    go_wp2_with fail
    refine hK.out _ _ hnew ?_
    clear hK K
    refine rg_norm (a' := ?_) ?_ ?_
    rotate_left
    · simp only [Act.put, List.setIfInBounds_toArray, List.set_cons_zero, List.set_cons_succ]
      rfl
    clear hHeld
    have hHeld := hnew
    clear hnew
    refine rg_ready [4] (by kernel_rfl) (by simp) ?_
    refine rg_one (i := 4) (N := some 25) (bm 11 127) rfl rfl (by kernel_rfl) (fun K hK => ?_) rg_nil
    first
      | (have hb4 := HD6.out.blk; have s0 : _ = some (Value.slice A5 m c5) := blk_cell hb4 0; clear hb4)
      | (have hb4 := (SB.pick2 (hwd.out ▸ HDF.out) [0]).blk; have s0 : _ = some (Value.slice A5 m c5) := blk_cell hb4 0; clear hb4)
    refine value_ (w1 := ?_) (v := ?_) (by rfl) rfl ?_ ?_
    rotate_left 2
    · go_simp
      constructor
      · rfl
      · rfl
    have hnew : True := trivial
    refine hK.out _ _ hnew ?_
    clear hK K
    refine rg_norm (a' := ?_) ?_ ?_
    rotate_left
    · simp only [Act.put, List.setIfInBounds_toArray, List.set_cons_zero, List.set_cons_succ]
      rfl
    clear hHeld
    have hHeld := hnew
    clear hnew
    refine rg_take (i := 7) (N := some 28) (v := ?_) (a' := ?_) (bm 11 255) rfl rfl (by kernel_rfl) (fun _ _ _ h => h) hHeld (Or.inl ⟨by rfl, ?_⟩) ?_ ?_
    rotate_left
    · intro w' hw'
      go_simp
      with_reducible rfl
    rotate_left
    · simp only [Act.put, List.setIfInBounds_toArray, List.set_cons_zero, List.set_cons_succ]
      rfl
    refine rg_take (i := 8) (N := some 29) (v := ?_) (a' := ?_) (bm 11 511) rfl rfl (by kernel_rfl) (fun _ _ _ h => h) hHeld (Or.inl ⟨by rfl, ?_⟩) ?_ ?_
    rotate_left
    · intro w' hw'
      go_simp
      with_reducible rfl
    rotate_left
    · simp only [Act.put, List.setIfInBounds_toArray, List.set_cons_zero, List.set_cons_succ]
      rfl
    refine rg_take (i := 9) (N := some 30) (v := ?_) (a' := ?_) (bm 11 1023) rfl rfl (by kernel_rfl) (fun _ _ _ h => h) hHeld (Or.inl ⟨by rfl, ?_⟩) ?_ ?_
    rotate_left
    · intro w' hw'
      go_simp
      with_reducible rfl
    rotate_left
    · simp only [Act.put, List.setIfInBounds_toArray, List.set_cons_zero, List.set_cons_succ]
      rfl
    refine rg_ready [10] (by kernel_rfl) (by simp) ?_
    refine rg_one (i := 10) (N := none) (bm 11 2047) rfl rfl (by kernel_rfl) (fun K hK => ?_) rg_nil
    have hb10 := HD6.out.blk
    have x0 := blk_cell hb10 0
    have f0 := blk_frozen hb10 0
    have HD10 := Aside0.mk (HD6.out.set1 0 (.slice A5 b c5))
    have hnew : True := trivial
    clear hb10
    go_simp
    refine hK.out undef _ hnew ?_
    clear hK K
    refine rg_norm (a' := ?_) ?_ ?_
    rotate_left
    · simp only [Act.put, List.setIfInBounds_toArray, List.set_cons_zero, List.set_cons_succ]
      rfl
    clear hHeld
    have hHeld := hnew
    clear hnew
    refine rg_done (by kernel_rfl) ?_
    have hb11 := HD10.out.blk
    have y0 := blk_cell hb11 0
    have hq1 := SB.rowTake (HD10.out.pick5 [1, 0, 2, 3, 4]) b (by rw [hvl5]; exact hbm)
    have htk : (s.v.take m).take b = s.v.take b := by rw [List.take_take, Nat.min_eq_left hbm]
    rw [htk] at hq1
    obtain ⟨AL', cL', eL, hcL, hCL⟩ := (hq1.pick5 [4]).reads
    injection eL with eL1 eL2 eL3
    clear eL2
    subst eL1
    subst eL3
    have hbl : (s.v.take b).length ≤ 100000 := by simp; omega
    have HQ1 := Aside0.mk hq1
    have HCL := Aside0.mk hCL
    clear hq1 hCL hb11 htk
    go_wp2_with ((with_reducible refine gate_builtin (b := .append) (xs := #[.tmp 35, .tmp 36]) rfl ?_); at_builtin; go_must ((refine SB.appRows (ys := xsL) HQ1.out rfl (.tmp 35) (.tmp 36) 22 (.int .u64 0) 8 rfl Try.underlying22 info35 rfl (by decide) (by decide) rfl rfl (fun _ _ h => h) HCL.out (by omega) ?_); intro v12 w12 hs12; obtain ⟨A12, c12, rfl, _, _⟩ := hs12.reads; obtain ⟨xs12, hx12⟩ : ∃ xs, s.v.take b ++ xsL = xs := ⟨_, rfl⟩; rw [hx12] at hs12 ⊢; have HX12 := Aside0.mk hx12; have hb12 := (hs12.pick2 [1]).blk; have z0 := blk_cell hb12 0; have z1 := blk_frozen hb12 0; have HS12 := Aside0.mk (show SB w0 _ (Box g #[.slice A12 xs12.length c12, .slice Af5 (n + 1) cf5, .int .i64 s.room] 56 :: Row (Kd.int .u64) 35 (.slice A12 xs12.length c12) xs12 :: Row (Kd.raw 4) 61 (.slice Af5 (n + 1) cf5) (z.map fm4) :: Sep (rowsOf z) :: L) from (((hs12.pick2 [1, 0]).set1 0 (.slice A12 xs12.length c12)).drew).pick5 [0, 1, 2, 3]); clear hs12 hb12 hx12))
    have hcut9 := cut49 Af5 (n + 1) cf5 n (by omega) hcf5
    refine rg_startL (n := 15) (S := fun w' => True) (bm 15 0) (by kernel_rfl) rfl (by kernel_rfl) (trivial) (fun we hwe hHeld => ?_)
    refine rg_take (i := 0) (N := some 40) (v := ?_) (a' := ?_) (bm 15 1) rfl rfl (by kernel_rfl) (fun _ _ _ h => h) hHeld (Or.inl ⟨by rfl, ?_⟩) ?_ ?_
    rotate_left
    · intro w' hw'
      have hw3' := hwn
      go_simp
      with_reducible rfl
    rotate_left
    · simp only [Act.put, List.setIfInBounds_toArray, List.set_cons_zero, List.set_cons_succ]
      rfl
    refine rg_take (i := 1) (N := some 41) (v := ?_) (a' := ?_) (bm 15 3) rfl rfl (by kernel_rfl) (fun _ _ _ h => h) hHeld (Or.inl ⟨by rfl, ?_⟩) ?_ ?_
    rotate_left
    · intro w' hw'
      have hw3' := hwn
      go_simp
      with_reducible rfl
    rotate_left
    · simp only [Act.put, List.setIfInBounds_toArray, List.set_cons_zero, List.set_cons_succ]
      rfl
    refine rg_take (i := 2) (N := some 42) (v := ?_) (a' := ?_) (bm 15 7) rfl rfl (by kernel_rfl) (fun _ _ _ h => h) hHeld (Or.inl ⟨by rfl, ?_⟩) ?_ ?_
    rotate_left
    · intro w' hw'
      have hw3' := hwn
      go_simp
      with_reducible rfl
    rotate_left
    · simp only [Act.put, List.setIfInBounds_toArray, List.set_cons_zero, List.set_cons_succ]
      rfl
    refine rg_take (i := 3) (N := some 43) (v := ?_) (a' := ?_) (bm 15 15) rfl rfl (by kernel_rfl) (fun _ _ _ h => h) hHeld (Or.inl ⟨by rfl, ?_⟩) ?_ ?_
    rotate_left
    · intro w' hw'
      have hw3' := hwn
      go_simp
      with_reducible rfl
    rotate_left
    · simp only [Act.put, List.setIfInBounds_toArray, List.set_cons_zero, List.set_cons_succ]
      rfl
    refine rg_take (i := 5) (N := some 45) (v := ?_) (a' := ?_) (bm 15 47) rfl rfl (by kernel_rfl) (fun _ _ _ h => h) hHeld (Or.inl ⟨by rfl, ?_⟩) ?_ ?_
    rotate_left
    · intro w' hw'
      have hw3' := hwn
      go_simp
      with_reducible rfl
    rotate_left
    · simp only [Act.put, List.setIfInBounds_toArray, List.set_cons_zero, List.set_cons_succ]
      rfl
    refine rg_take (i := 6) (N := some 46) (v := ?_) (a' := ?_) (bm 15 111) rfl rfl (by kernel_rfl) (fun _ _ _ h => h) hHeld (Or.inl ⟨by rfl, ?_⟩) ?_ ?_
    rotate_left
    · intro w' hw'
      have hw3' := hwn
      go_simp
      with_reducible rfl
    rotate_left
    · simp only [Act.put, List.setIfInBounds_toArray, List.set_cons_zero, List.set_cons_succ]
      rfl
    refine rg_take (i := 7) (N := some 47) (v := ?_) (a' := ?_) (bm 15 239) rfl rfl (by kernel_rfl) (fun _ _ _ h => h) hHeld (Or.inl ⟨by rfl, ?_⟩) ?_ ?_
    rotate_left
    · intro w' hw'
      have hw3' := hwn
      go_simp
      with_reducible rfl
    rotate_left
    · simp only [Act.put, List.setIfInBounds_toArray, List.set_cons_zero, List.set_cons_succ]
      rfl
    refine rg_ready [4, 8] (by kernel_rfl) (by simp) ?_
    refine rg_one (i := 4) (N := some 44) (bm 15 255) rfl rfl (by kernel_rfl) (fun K hK => ?_) ?_
    · skip
      have hb4 := SB.blk (hwe.out ▸ HS12.out)
      have t1 : _ = some (Value.slice Af5 (n + 1) cf5) := blk_cell hb4 1
      clear hb4
      refine value_ (w1 := ?_) (v := ?_) (by rfl) rfl ?_ ?_
      rotate_left 2
      · go_simp
        constructor
        · rfl
        · rfl
      have hnew : True := trivial
      refine hK.out _ _ hnew ?_
      clear hK K
      refine rg_norm (a' := ?_) ?_ ?_
      rotate_left
      · simp only [Act.put, List.setIfInBounds_toArray, List.set_cons_zero, List.set_cons_succ]
        rfl
      clear hHeld
      have hHeld := hnew
      clear hnew
      refine rg_ready [8] (by kernel_rfl) (by simp) ?_
      refine rg_one (i := 8) (N := some 48) (bm 15 511) rfl rfl (by kernel_rfl) (fun K hK => ?_) rg_nil
      have hb4 := SB.blk (hwe.out ▸ HS12.out)
      have t1 : _ = some (Value.slice Af5 (n + 1) cf5) := blk_cell hb4 1
      clear hb4
      refine value_ (w1 := ?_) (v := ?_) (by rfl) rfl ?_ ?_
      rotate_left 2
      · go_simp
        constructor
        · rfl
        · rfl
      have hnew : True := trivial
      refine hK.out _ _ hnew ?_
      clear hK K
      refine rg_norm (a' := ?_) ?_ ?_
      rotate_left
      · simp only [Act.put, List.setIfInBounds_toArray, List.set_cons_zero, List.set_cons_succ]
        rfl
      clear hHeld
      have hHeld := hnew
      clear hnew
      refine rg_take (i := 9) (N := some 49) (v := ?_) (a' := ?_) (bm 15 1023) rfl rfl (by kernel_rfl) (fun _ _ _ h => h) hHeld (Or.inl ⟨by rfl, ?_⟩) ?_ ?_
      rotate_left
      · intro w' hw'
        have hw3' := hwn
        go_simp
        with_reducible rfl
      rotate_left
      · simp only [Act.put, List.setIfInBounds_toArray, List.set_cons_zero, List.set_cons_succ]
        rfl
      refine rg_take (i := 10) (N := some 50) (v := ?_) (a' := ?_) (bm 15 2047) rfl rfl (by kernel_rfl) (fun _ _ _ h => h) hHeld (Or.inl ⟨by rfl, ?_⟩) ?_ ?_
      rotate_left
      · intro w' hw'
        have hw3' := hwn
        go_simp
        with_reducible rfl
      rotate_left
      · simp only [Act.put, List.setIfInBounds_toArray, List.set_cons_zero, List.set_cons_succ]
        rfl
      refine rg_take (i := 11) (N := some 51) (v := ?_) (a' := ?_) (bm 15 4095) rfl rfl (by kernel_rfl) (fun _ _ _ h => h) hHeld (Or.inl ⟨by rfl, ?_⟩) ?_ ?_
      rotate_left
      · intro w' hw'
        have hw3' := hwn
        go_simp
        with_reducible rfl
      rotate_left
      · simp only [Act.put, List.setIfInBounds_toArray, List.set_cons_zero, List.set_cons_succ]
        rfl
      refine rg_take (i := 12) (N := some 52) (v := ?_) (a' := ?_) (bm 15 8191) rfl rfl (by kernel_rfl) (fun _ _ _ h => h) hHeld (Or.inl ⟨by rfl, ?_⟩) ?_ ?_
      rotate_left
      · intro w' hw'
        have hw3' := hwn
        go_simp
        with_reducible rfl
      rotate_left
      · simp only [Act.put, List.setIfInBounds_toArray, List.set_cons_zero, List.set_cons_succ]
        rfl
      refine rg_take (i := 13) (N := some 53) (v := ?_) (a' := ?_) (bm 15 16383) rfl rfl (by kernel_rfl) (fun _ _ _ h => h) hHeld (Or.inl ⟨by rfl, ?_⟩) ?_ ?_
      rotate_left
      · intro w' hw'
        have hw3' := hwn
        go_simp
        with_reducible rfl
      rotate_left
      · simp only [Act.put, List.setIfInBounds_toArray, List.set_cons_zero, List.set_cons_succ]
        rfl
      refine rg_ready [14] (by kernel_rfl) (by simp) ?_
      refine rg_one (i := 14) (N := none) (bm 15 32767) rfl rfl (by kernel_rfl) (fun K hK => ?_) rg_nil
      have hh : SB w0 we (Box g #[.slice A12 xs12.length c12, .slice Af5 (n + 1) cf5, .int .i64 s.room] 56 :: Row (Kd.int .u64) 35 (.slice A12 xs12.length c12) xs12 :: Row (Kd.raw 4) 61 (.slice Af5 (n + 1) cf5) (z.map fm4) :: Sep (rowsOf z) :: L) := hwe.out ▸ HS12.out
      have hb5 := hh.blk
      have x1 := blk_cell hb5 1
      have f1 := blk_frozen hb5 1
      have HD14 := Aside0.mk (hh.set1 1 (.slice Af5 n cf5))
      have hnew : True := trivial
      clear hb5 hh
      go_simp
      refine hK.out undef _ hnew ?_
      clear hK K
      refine rg_norm (a' := ?_) ?_ ?_
      rotate_left
      · simp only [Act.put, List.setIfInBounds_toArray, List.set_cons_zero, List.set_cons_succ]
        rfl
      clear hHeld
      have hHeld := hnew
      clear hnew
      refine rg_done (by kernel_rfl) ?_
      go_wp2
      go_ret
      refine ⟨rfl, ?_⟩
      have h15 := HD14.out
      obtain ⟨z0, x, hzx⟩ : ∃ z0 x, z = z0 ++ [x] := by
        rcases List.eq_nil_or_concat z with h | ⟨z0, x, h⟩
        · have := HZL.out; rw [h] at this; simp at this
        · exact ⟨z0, x, by rw [h, List.concat_eq_append]⟩
      subst hzx
      have hz0 : z0.length = n := by have := HZL.out; simp at this; exact this
      have h16 := SB.rowTake (h15.pick3 [2, 0, 1]) n (by simp; omega)
      rw [show ((z0 ++ [x]).map fm4).take n = z0.map fm4 by rw [List.map_append, ← hz0, ← List.length_map (f := fm4), List.take_left]] at h16
      rw [rowsOf_push] at h16
      have h17 := SB.sepPop (h16.pick4 [3, 0, 1, 2])
      have hzm : s.fr.dropLast = z0.map Prod.fst := by rw [← show List.map Prod.fst (z0 ++ [x]) = s.fr from HZ.out, List.map_append]; simp
      rw [HXL.out, HX12.out]
      exact SB.xclose (s := { s with v := xs12, fr := s.fr.dropLast }) hzm.symm (h17.pick5 [3, 4, 2, 1])
    refine rg_one (i := 8) (N := some 48) (bm 15 495) rfl rfl (by kernel_rfl) (fun K hK => ?_) ?_
    · skip
      have hb4 := SB.blk (hwe.out ▸ HS12.out)
      have t1 : _ = some (Value.slice Af5 (n + 1) cf5) := blk_cell hb4 1
      clear hb4
      refine value_ (w1 := ?_) (v := ?_) (by rfl) rfl ?_ ?_
      rotate_left 2
      · go_simp
        constructor
        · rfl
        · rfl
      have hnew : True := trivial
      refine hK.out _ _ hnew ?_
      clear hK K
      refine rg_norm (a' := ?_) ?_ ?_
      rotate_left
      · simp only [Act.put, List.setIfInBounds_toArray, List.set_cons_zero, List.set_cons_succ]
        rfl
      clear hHeld
      have hHeld := hnew
      clear hnew
      refine rg_take (i := 9) (N := some 49) (v := ?_) (a' := ?_) (bm 15 1007) rfl rfl (by kernel_rfl) (fun _ _ _ h => h) hHeld (Or.inl ⟨by rfl, ?_⟩) ?_ ?_
      rotate_left
      · intro w' hw'
        have hw3' := hwn
        go_simp
        with_reducible rfl
      rotate_left
      · simp only [Act.put, List.setIfInBounds_toArray, List.set_cons_zero, List.set_cons_succ]
        rfl
      refine rg_take (i := 10) (N := some 50) (v := ?_) (a' := ?_) (bm 15 2031) rfl rfl (by kernel_rfl) (fun _ _ _ h => h) hHeld (Or.inl ⟨by rfl, ?_⟩) ?_ ?_
      rotate_left
      · intro w' hw'
        have hw3' := hwn
        go_simp
        with_reducible rfl
      rotate_left
      · simp only [Act.put, List.setIfInBounds_toArray, List.set_cons_zero, List.set_cons_succ]
        rfl
      refine rg_ready [4] (by kernel_rfl) (by simp) ?_
      refine rg_one (i := 4) (N := some 44) (bm 15 2047) rfl rfl (by kernel_rfl) (fun K hK => ?_) rg_nil
      have hb4 := SB.blk (hwe.out ▸ HS12.out)
      have t1 : _ = some (Value.slice Af5 (n + 1) cf5) := blk_cell hb4 1
      clear hb4
      refine value_ (w1 := ?_) (v := ?_) (by rfl) rfl ?_ ?_
      rotate_left 2
      · go_simp
        constructor
        · rfl
        · rfl
      have hnew : True := trivial
      refine hK.out _ _ hnew ?_
      clear hK K
      refine rg_norm (a' := ?_) ?_ ?_
      rotate_left
      · simp only [Act.put, List.setIfInBounds_toArray, List.set_cons_zero, List.set_cons_succ]
        rfl
      clear hHeld
      have hHeld := hnew
      clear hnew
      refine rg_take (i := 11) (N := some 51) (v := ?_) (a' := ?_) (bm 15 4095) rfl rfl (by kernel_rfl) (fun _ _ _ h => h) hHeld (Or.inl ⟨by rfl, ?_⟩) ?_ ?_
      rotate_left
      · intro w' hw'
        have hw3' := hwn
        go_simp
        with_reducible rfl
      rotate_left
      · simp only [Act.put, List.setIfInBounds_toArray, List.set_cons_zero, List.set_cons_succ]
        rfl
      refine rg_take (i := 12) (N := some 52) (v := ?_) (a' := ?_) (bm 15 8191) rfl rfl (by kernel_rfl) (fun _ _ _ h => h) hHeld (Or.inl ⟨by rfl, ?_⟩) ?_ ?_
      rotate_left
      · intro w' hw'
        have hw3' := hwn
        go_simp
        with_reducible rfl
      rotate_left
      · simp only [Act.put, List.setIfInBounds_toArray, List.set_cons_zero, List.set_cons_succ]
        rfl
      refine rg_take (i := 13) (N := some 53) (v := ?_) (a' := ?_) (bm 15 16383) rfl rfl (by kernel_rfl) (fun _ _ _ h => h) hHeld (Or.inl ⟨by rfl, ?_⟩) ?_ ?_
      rotate_left
      · intro w' hw'
        have hw3' := hwn
        go_simp
        with_reducible rfl
      rotate_left
      · simp only [Act.put, List.setIfInBounds_toArray, List.set_cons_zero, List.set_cons_succ]
        rfl
      refine rg_ready [14] (by kernel_rfl) (by simp) ?_
      refine rg_one (i := 14) (N := none) (bm 15 32767) rfl rfl (by kernel_rfl) (fun K hK => ?_) rg_nil
      have hh : SB w0 we (Box g #[.slice A12 xs12.length c12, .slice Af5 (n + 1) cf5, .int .i64 s.room] 56 :: Row (Kd.int .u64) 35 (.slice A12 xs12.length c12) xs12 :: Row (Kd.raw 4) 61 (.slice Af5 (n + 1) cf5) (z.map fm4) :: Sep (rowsOf z) :: L) := hwe.out ▸ HS12.out
      have hb5 := hh.blk
      have x1 := blk_cell hb5 1
      have f1 := blk_frozen hb5 1
      have HD14 := Aside0.mk (hh.set1 1 (.slice Af5 n cf5))
      have hnew : True := trivial
      clear hb5 hh
      go_simp
      refine hK.out undef _ hnew ?_
      clear hK K
      refine rg_norm (a' := ?_) ?_ ?_
      rotate_left
      · simp only [Act.put, List.setIfInBounds_toArray, List.set_cons_zero, List.set_cons_succ]
        rfl
      clear hHeld
      have hHeld := hnew
      clear hnew
      refine rg_done (by kernel_rfl) ?_
      go_wp2
      go_ret
      refine ⟨rfl, ?_⟩
      have h15 := HD14.out
      obtain ⟨z0, x, hzx⟩ : ∃ z0 x, z = z0 ++ [x] := by
        rcases List.eq_nil_or_concat z with h | ⟨z0, x, h⟩
        · have := HZL.out; rw [h] at this; simp at this
        · exact ⟨z0, x, by rw [h, List.concat_eq_append]⟩
      subst hzx
      have hz0 : z0.length = n := by have := HZL.out; simp at this; exact this
      have h16 := SB.rowTake (h15.pick3 [2, 0, 1]) n (by simp; omega)
      rw [show ((z0 ++ [x]).map fm4).take n = z0.map fm4 by rw [List.map_append, ← hz0, ← List.length_map (f := fm4), List.take_left]] at h16
      rw [rowsOf_push] at h16
      have h17 := SB.sepPop (h16.pick4 [3, 0, 1, 2])
      have hzm : s.fr.dropLast = z0.map Prod.fst := by rw [← show List.map Prod.fst (z0 ++ [x]) = s.fr from HZ.out, List.map_append]; simp
      rw [HXL.out, HX12.out]
      exact SB.xclose (s := { s with v := xs12, fr := s.fr.dropLast }) hzm.symm (h17.pick5 [3, 4, 2, 1])
    exact rg_nil
  exact rg_nil
end Go.Proofs.Ytbbgkelcdooabaa.G
