/- Package frames' stacks: Enter. -/
import Derived.Deep.DeepMust
import Derived.Test.YtbbgkelcdooabaaFraD
namespace Go.Proofs.Ytbbgkelcdooabaa.G
open Go.RowKit Go.Proofs.YtbbgkelcdooabaaW.PrintWords Go.Proofs.YtbbgkelcdooabaaW.PrintLast Go.Proofs.YtbbgkelcdooabaaW.PrintMore
set_option linter.unusedVariables false
set_option linter.unusedSimpArgs false
theorem frEnterNil (a b c d : Int) (w : World) : Calls Try.prog 12 #[.pointer none, .int .i64 a, .int .i64 b, .int .i64 c, .int .i64 d] w fun e w' => e = .returned (.int .i64 9) ∧ Drawn0 w w' := by
  go_enter Try.func12, Try.ntmps12
  go_wp2
  go_quiet (fail)
  go_wp2
  go_ret
  exact ⟨rfl, drawn_n _ _⟩
theorem frEnterDeep {w0 w : World} {L : List As} {p : Nat} {s : FS} (hS : SB w0 w (FO p s :: L)) (a b c d : Int) (hd : s.room ≤ (s.fr.length : Int)) :
    Calls Try.prog 12 #[.pointer (some ⟨p, 0, none⟩), .int .i64 a, .int .i64 b, .int .i64 c, .int .i64 d] w fun e w' => e = .returned (.int .i64 9) ∧ SB w0 w' (FO p s :: L) := by
  obtain ⟨v, z, hz, hk, h1⟩ := hS.open_
  have hb := h1.blk
  have hzl : z.length = s.fr.length := by have := congrArg List.length hz; simpa using this
  have hn : w.cell? ⟨p, 257, none⟩ = some (.int .i64 (s.fr.length : Int)) := by rw [fsC_b _ _ _ hb 257 (by omega), ← hzl]; rfl
  have hr : w.cell? ⟨p, 258, none⟩ = some (.int .i64 s.room) := fsC_b _ _ _ hb 258 (by omega)
  have d1 : decide (s.room ≤ (s.fr.length : Int)) = true := decide_eq_true hd
  have HS := Aside0.mk hS
  clear hS h1 hb hzl hd
  go_enter Try.func12, Try.ntmps12
  go_wp2
  go_quiet (fail)
  go_wp2
  go_ret
  exact ⟨rfl, HS.out.drewN _⟩
theorem frEnterStuck {w0 w : World} {L : List As} {p : Nat} {s : FS} (hS : SB w0 w (FO p s :: L)) (hl : s.v.length ≤ 1000000) (a b c d : Int) (hd : (s.fr.length : Int) < s.room) (hq : d < 0 ∨ ¬ hasN s c) :
    Calls Try.prog 12 #[.pointer (some ⟨p, 0, none⟩), .int .i64 a, .int .i64 b, .int .i64 c, .int .i64 d] w fun e w' => e = .returned (.int .i64 11) ∧ SB w0 w' (FO p s :: L) := by
  have HH := Aside0.mk (fun nd => frHasS (hS.drewN nd) hl c)
  obtain ⟨v, z, hz, hk, h1⟩ := hS.open_
  have hb := h1.blk
  have hzl : z.length = s.fr.length := by have := congrArg List.length hz; simpa using this
  have hn : w.cell? ⟨p, 257, none⟩ = some (.int .i64 (s.fr.length : Int)) := by rw [fsC_b _ _ _ hb 257 (by omega), ← hzl]; rfl
  have hr : w.cell? ⟨p, 258, none⟩ = some (.int .i64 s.room) := fsC_b _ _ _ hb 258 (by omega)
  have d1 : decide (s.room ≤ (s.fr.length : Int)) = false := decide_eq_false (by omega)
  have HS := Aside0.mk hS
  clear hS h1 hb hzl hd
  by_cases hq2 : d < 0
  · have d2 : decide (d < 0) = true := decide_eq_true hq2
    clear hq hq2
    go_enter Try.func12, Try.ntmps12
    go_wp2
    go_quiet (fail)
    go_wp2
    go_ret
    exact ⟨rfl, HS.out.drewN _⟩
  · have d2 : decide (d < 0) = false := decide_eq_false hq2
    have HH := Aside0.mk (fun nd => (decide_eq_false (hq.resolve_left hq2)) ▸ HH.out nd)
    clear hq hq2
    go_enter Try.func12, Try.ntmps12
    go_wp2
    go_quiet (fail)
    go_wp2_with (go_at_call 32; (with_reducible refine (HH.out _).mono ?_); rintro e w1 ⟨rfl, ⟨nd, rfl⟩⟩)
    go_ret
    exact ⟨rfl, HS.out.drewN _⟩
theorem blk_set4 {cs : Array Value} {b i : Nat} (x0 x1 x2 x3 : Value) (h : i < b ∨ b + 3 < i) : ((((cs.setIfInBounds b x0).setIfInBounds (b + 1) x1).setIfInBounds (b + 2) x2).setIfInBounds (b + 3) x3)[i]? = cs[i]? := by
  simp only [Array.getElem?_setIfInBounds]
  rw [if_neg (by omega), if_neg (by omega), if_neg (by omega), if_neg (by omega)]
theorem SB.set4 {w0 w : World} {L : List As} {p t : Nat} {cs : Array Value} (h : SB w0 w (Box p cs t :: L)) (b : Nat) (x0 x1 x2 x3 : Value) :
    SB w0 ((((w.setCell ⟨p, b, none⟩ x0).setCell ⟨p, b + 1, none⟩ x1).setCell ⟨p, b + 2, none⟩ x2).setCell ⟨p, b + 3, none⟩ x3) (Box p ((((cs.setIfInBounds b x0).setIfInBounds (b + 1) x1).setIfInBounds (b + 2) x2).setIfInBounds (b + 3) x3) t :: L) :=
  (((h.set1 b x0).set1 (b + 1) x1).set1 (b + 2) x2).set1 (b + 3) x3
/-- The first assertions, by their numbers; the others of them are dropped. -/
theorem SB.pickL {w0 w : World} (Q : List As) {L : List As} (h : SB w0 w (Q ++ L)) (ix : List Nat) (hp : pickOk Q.length ix = true) : SB w0 w ((ix.map fun i => Q.getD i As.none) ++ L) := by
  have h1 := List.isPerm_iff.1 hp
  have h2 := h1.map (fun i => Q.getD i As.none)
  have h3 : (List.range Q.length).map (fun i => Q.getD i As.none) = Q := by
    apply List.ext_getElem
    · simp
    · intro i h1 h2
      simp [List.getElem?_eq_getElem h2]
  rw [h3, List.map_append] at h2
  have h4 := h.perm ((h2.symm).append_right L)
  rw [List.append_assoc] at h4
  have h5 := h4.perm ((List.perm_append_comm (l₁ := ((List.range Q.length).filter (fun i => !ix.contains i)).map fun i => Q.getD i As.none) (l₂ := L)).append_left _)
  rw [← List.append_assoc] at h5
  exact h5.prefix_
theorem SB.pick2 {w0 w : World} {A B : As} {L : List As} (h : SB w0 w (A :: B :: L)) (ix : List Nat) (hp : pickOk 2 ix = true := by kernel_rfl) : SB w0 w ((ix.map fun i => [A, B].getD i As.none) ++ L) := SB.pickL [A, B] h ix hp
theorem SB.pick3 {w0 w : World} {A B C : As} {L : List As} (h : SB w0 w (A :: B :: C :: L)) (ix : List Nat) (hp : pickOk 3 ix = true := by kernel_rfl) : SB w0 w ((ix.map fun i => [A, B, C].getD i As.none) ++ L) := SB.pickL [A, B, C] h ix hp
theorem SB.pick4 {w0 w : World} {A B C D : As} {L : List As} (h : SB w0 w (A :: B :: C :: D :: L)) (ix : List Nat) (hp : pickOk 4 ix = true := by kernel_rfl) : SB w0 w ((ix.map fun i => [A, B, C, D].getD i As.none) ++ L) := SB.pickL [A, B, C, D] h ix hp
theorem SB.pick5 {w0 w : World} {A B C D E : As} {L : List As} (h : SB w0 w (A :: B :: C :: D :: E :: L)) (ix : List Nat) (hp : pickOk 5 ix = true := by kernel_rfl) : SB w0 w ((ix.map fun i => [A, B, C, D, E].getD i As.none) ++ L) := SB.pickL [A, B, C, D, E] h ix hp
theorem SB.rot3 {w0 w : World} {A B C D : As} {L : List As} (h : SB w0 w (A :: B :: C :: D :: L)) : SB w0 w (D :: A :: B :: C :: L) :=
  h.perm ((((List.Perm.swap _ _ _).cons _).cons _).trans (((List.Perm.swap _ _ _).cons _).trans (.swap _ _ _)))
theorem SB.sepPush {w0 w : World} {A : As} {M L : List As} (h : SB w0 w (A :: Sep M :: L)) : SB w0 w (Sep (M ++ [A]) :: L) := by
  have h1 := SB.sepN.1 (SB.sep.2 h)
  refine SB.sepN.2 (h1.perm ?_)
  rw [List.append_assoc]
  exact List.perm_middle.symm
theorem SB.sepPop {w0 w : World} {A : As} {M L : List As} (h : SB w0 w (Sep (M ++ [A]) :: L)) : SB w0 w (A :: Sep M :: L) := by
  have h1 := SB.sepN.1 h
  refine SB.sep.1 (SB.sepN.2 (h1.perm ?_))
  rw [List.append_assoc]
  exact List.perm_middle
theorem rowsOf_push (z : List (Fm × Value)) (x : Fm × Value) : rowsOf (z ++ [x]) = rowsOf z ++ [Row (Kd.int .u64) 35 x.2 x.1.loc] := by simp [rowsOf]
theorem frEnterOk {w0 w : World} {L : List As} {p : Nat} {s : FS} (hS : SB w0 w (FO p s :: L)) (hl : s.v.length ≤ 1000000) (a b : Int) (c d : Nat) (hd : (s.fr.length : Int) < s.room) (hq : hasN s c) (hdm : d ≤ 1000000) :
    Calls Try.prog 12 #[.pointer (some ⟨p, 0, none⟩), .int .i64 a, .int .i64 b, .int .i64 (c : Int), .int .i64 (d : Int)] w fun e w' => e = .returned (.int .i64 0) ∧
      SB w0 w' (FO p { s with v := s.v.take (s.v.length - c), fr := s.fr ++ [⟨a, b, s.v.drop (s.v.length - c) ++ List.replicate d 0, ((s.v.length - c : Nat) : Int)⟩] } :: L) := by
  have HH := Aside0.mk (fun nd => (decide_eq_true hq) ▸ frHasS (hS.drewN nd) hl c)
  have HT := Aside0.mk (fun nd => frTakeOk (hS.drewN nd) hl c hq)
  obtain ⟨v, z, hz, hk, h1⟩ := hS.open_
  have hb := h1.blk
  have hzl : z.length = s.fr.length := by have := congrArg List.length hz; simpa using this
  obtain ⟨n, hnn⟩ : ∃ n, s.fr.length = n := ⟨_, rfl⟩
  have hn : w.cell? ⟨p, 257, none⟩ = some (.int .i64 (n : Int)) := by rw [fsC_b _ _ _ hb 257 (by omega), ← hnn, ← hzl]; rfl
  have hr : w.cell? ⟨p, 258, none⟩ = some (.int .i64 s.room) := fsC_b _ _ _ hb 258 (by omega)
  have hn64 : n < 64 := by have := hk.room; omega
  rw [hnn] at hd
  have d1 : decide (s.room ≤ (n : Int)) = false := decide_eq_false (by omega)
  have d2 : decide ((d : Int) < 0) = false := decide_eq_false (by omega)
  have hcl : c ≤ s.v.length := by have := (baseOf_ok hk).1; have := hq.2; omega
  obtain ⟨m, hm⟩ : ∃ m, s.v.length - c = m := ⟨_, rfl⟩
  rw [hm] at HT ⊢
  have hml : m ≤ s.v.length := by omega
  have hwn : IntKind.i64.wrap ((n : Int) + 1) = ((n + 1 : Nat) : Int) := by rw [IntKind.wrap_i64]; omega
  have HK := Aside0.mk hk
  have HN := Aside0.mk hnn
  have HZ := Aside0.mk hd
  clear hS h1 hb hzl hd hq hz z v hm hk hnn
  go_enter Try.func12, Try.ntmps12
  go_wp2
  go_quiet (fail)
  go_wp2_with (first
    | (go_at_call 32; (with_reducible refine (HH.out _).mono ?_); rintro e w1 ⟨rfl, ⟨nd, rfl⟩⟩)
    | (go_at_call 33; go_must ((with_reducible refine (HT.out _).mono ?_); rintro e w3 ⟨vL, rfl, hs⟩; have HT3 := Aside0.mk hs; clear hs)))
  obtain ⟨v, z, hz, hk, h1⟩ := HT3.out.swap.open_
  obtain ⟨A0, c0, rfl, hc0, _⟩ := h1.swap.reads
  have hvl : (s.v.take m).length = m := by simp; omega
  have hzl : z.length = n := by have := congrArg List.length hz; have := HN.out; simp at *; omega
  simp only [hvl] at h1 hc0
  have hb3 := h1.drew.blk
  have s0 : w3.drew.cell? ⟨p, 0, none⟩ = some (.slice A0 m c0) := fsC_b _ _ _ hb3 0 (by omega)
  have s1 : w3.drew.cell? ⟨p, 257, none⟩ = some (.int .i64 (n : Int)) := by rw [fsC_b _ _ _ hb3 257 (by omega), ← hzl]; rfl
  have HD := Aside0.mk h1.drew.rot3
  clear h1 hb3 HT3
  have e257 : cellAt (.slice A0 m c0) z s.room 257 = .int .i64 (n : Int) := by rw [← hzl]; rfl
  have e0 : cellAt (.slice A0 m c0) z s.room 0 = .slice A0 m c0 := rfl
  refine rg_startL (n := 20) (S := fun w' => w'.cell? ⟨p, 0, none⟩ = some (.slice A0 m c0) ∧ w'.cell? ⟨p, 257, none⟩ = some (.int .i64 (n : Int))) (bm 20 0) (by kernel_rfl) rfl (by kernel_rfl) (⟨s0, s1⟩) (fun wd hwd hHeld => ?_)
  refine rg_take (i := 0) (N := some 42) (v := ?_) (a' := ?_) (bm 20 1) rfl rfl (by kernel_rfl) (fun _ _ _ h => h) hHeld (Or.inl ⟨by rfl, ?_⟩) ?_ ?_
  rotate_left
  · intro w' hw'
    have s0 := hw'.1
    have s1 := hw'.2
    have hc1 : (n : Int) < 64 := by omega
    have hc2 : (0 : Int) ≤ (n : Int) := by omega
    go_simp
    with_reducible rfl
  rotate_left
  · simp only [Act.put, List.setIfInBounds_toArray, List.set_cons_zero, List.set_cons_succ]
    rfl
  refine rg_take (i := 1) (N := some 43) (v := ?_) (a' := ?_) (bm 20 3) rfl rfl (by kernel_rfl) (fun _ _ _ h => h) hHeld (Or.inl ⟨by rfl, ?_⟩) ?_ ?_
  rotate_left
  · intro w' hw'
    have s0 := hw'.1
    have s1 := hw'.2
    have hc1 : (n : Int) < 64 := by omega
    have hc2 : (0 : Int) ≤ (n : Int) := by omega
    go_simp
    with_reducible rfl
  rotate_left
  · simp only [Act.put, List.setIfInBounds_toArray, List.set_cons_zero, List.set_cons_succ]
    rfl
  refine rg_take (i := 2) (N := some 44) (v := ?_) (a' := ?_) (bm 20 7) rfl rfl (by kernel_rfl) (fun _ _ _ h => h) hHeld (Or.inl ⟨by rfl, ?_⟩) ?_ ?_
  rotate_left
  · intro w' hw'
    have s0 := hw'.1
    have s1 := hw'.2
    have hc1 : (n : Int) < 64 := by omega
    have hc2 : (0 : Int) ≤ (n : Int) := by omega
    go_simp
    with_reducible rfl
  rotate_left
  · simp only [Act.put, List.setIfInBounds_toArray, List.set_cons_zero, List.set_cons_succ]
    rfl
  refine rg_take (i := 3) (N := some 45) (v := ?_) (a' := ?_) (bm 20 15) rfl rfl (by kernel_rfl) (fun _ _ _ h => h) hHeld (Or.inl ⟨by rfl, ?_⟩) ?_ ?_
  rotate_left
  · intro w' hw'
    have s0 := hw'.1
    have s1 := hw'.2
    have hc1 : (n : Int) < 64 := by omega
    have hc2 : (0 : Int) ≤ (n : Int) := by omega
    go_simp
    with_reducible rfl
  rotate_left
  · simp only [Act.put, List.setIfInBounds_toArray, List.set_cons_zero, List.set_cons_succ]
    rfl
  refine rg_take (i := 4) (N := some 46) (v := ?_) (a' := ?_) (bm 20 31) rfl rfl (by kernel_rfl) (fun _ _ _ h => h) hHeld (Or.inl ⟨by rfl, ?_⟩) ?_ ?_
  rotate_left
  · intro w' hw'
    have s0 := hw'.1
    have s1 := hw'.2
    have hc1 : (n : Int) < 64 := by omega
    have hc2 : (0 : Int) ≤ (n : Int) := by omega
    go_simp
    with_reducible rfl
  rotate_left
  · simp only [Act.put, List.setIfInBounds_toArray, List.set_cons_zero, List.set_cons_succ]
    rfl
  refine rg_take (i := 5) (N := some 47) (v := ?_) (a' := ?_) (bm 20 63) rfl rfl (by kernel_rfl) (fun _ _ _ h => h) hHeld (Or.inl ⟨by rfl, ?_⟩) ?_ ?_
  rotate_left
  · intro w' hw'
    have s0 := hw'.1
    have s1 := hw'.2
    have hc1 : (n : Int) < 64 := by omega
    have hc2 : (0 : Int) ≤ (n : Int) := by omega
    go_simp
    with_reducible rfl
  rotate_left
  · simp only [Act.put, List.setIfInBounds_toArray, List.set_cons_zero, List.set_cons_succ]
    rfl
  refine rg_take (i := 6) (N := some 48) (v := ?_) (a' := ?_) (bm 20 127) rfl rfl (by kernel_rfl) (fun _ _ _ h => h) hHeld (Or.inl ⟨by rfl, ?_⟩) ?_ ?_
  rotate_left
  · intro w' hw'
    have s0 := hw'.1
    have s1 := hw'.2
    have hc1 : (n : Int) < 64 := by omega
    have hc2 : (0 : Int) ≤ (n : Int) := by omega
    go_simp
    with_reducible rfl
  rotate_left
  · simp only [Act.put, List.setIfInBounds_toArray, List.set_cons_zero, List.set_cons_succ]
    rfl
  refine rg_take (i := 7) (N := some 49) (v := ?_) (a' := ?_) (bm 20 255) rfl rfl (by kernel_rfl) (fun _ _ _ h => h) hHeld (Or.inl ⟨by rfl, ?_⟩) ?_ ?_
  rotate_left
  · intro w' hw'
    have s0 := hw'.1
    have s1 := hw'.2
    have hc1 : (n : Int) < 64 := by omega
    have hc2 : (0 : Int) ≤ (n : Int) := by omega
    go_simp
    with_reducible rfl
  rotate_left
  · simp only [Act.put, List.setIfInBounds_toArray, List.set_cons_zero, List.set_cons_succ]
    rfl
  refine rg_take (i := 8) (N := some 50) (v := ?_) (a' := ?_) (bm 20 511) rfl rfl (by kernel_rfl) (fun _ _ _ h => h) hHeld (Or.inl ⟨by rfl, ?_⟩) ?_ ?_
  rotate_left
  · intro w' hw'
    have s0 := hw'.1
    have s1 := hw'.2
    have hc1 : (n : Int) < 64 := by omega
    have hc2 : (0 : Int) ≤ (n : Int) := by omega
    go_simp
    with_reducible rfl
  rotate_left
  · simp only [Act.put, List.setIfInBounds_toArray, List.set_cons_zero, List.set_cons_succ]
    rfl
  refine rg_take (i := 10) (N := some 52) (v := ?_) (a' := ?_) (bm 20 1535) rfl rfl (by kernel_rfl) (fun _ _ _ h => h) hHeld (Or.inl ⟨by rfl, ?_⟩) ?_ ?_
  rotate_left
  · intro w' hw'
    have s0 := hw'.1
    have s1 := hw'.2
    have hc1 : (n : Int) < 64 := by omega
    have hc2 : (0 : Int) ≤ (n : Int) := by omega
    go_simp
    with_reducible rfl
  rotate_left
  · simp only [Act.put, List.setIfInBounds_toArray, List.set_cons_zero, List.set_cons_succ]
    rfl
  refine rg_take (i := 11) (N := some 53) (v := ?_) (a' := ?_) (bm 20 3583) rfl rfl (by kernel_rfl) (fun _ _ _ h => h) hHeld (Or.inl ⟨by rfl, ?_⟩) ?_ ?_
  rotate_left
  · intro w' hw'
    have s0 := hw'.1
    have s1 := hw'.2
    have hc1 : (n : Int) < 64 := by omega
    have hc2 : (0 : Int) ≤ (n : Int) := by omega
    go_simp
    with_reducible rfl
  rotate_left
  · simp only [Act.put, List.setIfInBounds_toArray, List.set_cons_zero, List.set_cons_succ]
    rfl
  refine rg_take (i := 12) (N := some 54) (v := ?_) (a' := ?_) (bm 20 7679) rfl rfl (by kernel_rfl) (fun _ _ _ h => h) hHeld (Or.inl ⟨by rfl, ?_⟩) ?_ ?_
  rotate_left
  · intro w' hw'
    have s0 := hw'.1
    have s1 := hw'.2
    have hc1 : (n : Int) < 64 := by omega
    have hc2 : (0 : Int) ≤ (n : Int) := by omega
    go_simp
    with_reducible rfl
  rotate_left
  · simp only [Act.put, List.setIfInBounds_toArray, List.set_cons_zero, List.set_cons_succ]
    rfl
  refine rg_take (i := 13) (N := some 55) (v := ?_) (a' := ?_) (bm 20 15871) rfl rfl (by kernel_rfl) (fun _ _ _ h => h) hHeld (Or.inl ⟨by rfl, ?_⟩) ?_ ?_
  rotate_left
  · intro w' hw'
    have s0 := hw'.1
    have s1 := hw'.2
    have hc1 : (n : Int) < 64 := by omega
    have hc2 : (0 : Int) ≤ (n : Int) := by omega
    go_simp
    with_reducible rfl
  rotate_left
  · simp only [Act.put, List.setIfInBounds_toArray, List.set_cons_zero, List.set_cons_succ]
    rfl
  refine rg_take (i := 14) (N := some 56) (v := ?_) (a' := ?_) (bm 20 32255) rfl rfl (by kernel_rfl) (fun _ _ _ h => h) hHeld (Or.inl ⟨by rfl, ?_⟩) ?_ ?_
  rotate_left
  · intro w' hw'
    have s0 := hw'.1
    have s1 := hw'.2
    have hc1 : (n : Int) < 64 := by omega
    have hc2 : (0 : Int) ≤ (n : Int) := by omega
    go_simp
    with_reducible rfl
  rotate_left
  · simp only [Act.put, List.setIfInBounds_toArray, List.set_cons_zero, List.set_cons_succ]
    rfl
  refine rg_take (i := 16) (N := some 58) (v := ?_) (a' := ?_) (bm 20 97791) rfl rfl (by kernel_rfl) (fun _ _ _ h => h) hHeld (Or.inl ⟨by rfl, ?_⟩) ?_ ?_
  rotate_left
  · intro w' hw'
    have s0 := hw'.1
    have s1 := hw'.2
    have hc1 : (n : Int) < 64 := by omega
    have hc2 : (0 : Int) ≤ (n : Int) := by omega
    go_simp
    with_reducible rfl
  rotate_left
  · simp only [Act.put, List.setIfInBounds_toArray, List.set_cons_zero, List.set_cons_succ]
    rfl
  refine rg_take (i := 17) (N := some 59) (v := ?_) (a' := ?_) (bm 20 228863) rfl rfl (by kernel_rfl) (fun _ _ _ h => h) hHeld (Or.inl ⟨by rfl, ?_⟩) ?_ ?_
  rotate_left
  · intro w' hw'
    have s0 := hw'.1
    have s1 := hw'.2
    have hc1 : (n : Int) < 64 := by omega
    have hc2 : (0 : Int) ≤ (n : Int) := by omega
    go_simp
    with_reducible rfl
  rotate_left
  · simp only [Act.put, List.setIfInBounds_toArray, List.set_cons_zero, List.set_cons_succ]
    rfl
  refine rg_ready [9] (by kernel_rfl) (by simp) ?_
  refine rg_one (i := 9) (N := some 51) (bm 20 229375) rfl rfl (by kernel_rfl) (fun K hK => ?_) rg_nil
  have HDw := Aside0.mk (hwd.out ▸ HD.out)
  refine SB.appZerosStep HDw.out (by rfl) (.tmp 49) (.tmp 50) 22 3 8 .i64 .i64 rfl Try.underlying22 Try.underlying3 info35 (by decide) d rfl rfl (by simp; omega) ?_
  intro v5 wx9r6 hs5
  obtain ⟨A5, c5, rfl, hc5, _⟩ := hs5.reads
  obtain ⟨xs5, hxs5⟩ : ∃ xs, s.v.drop m ++ List.replicate d 0 = xs := ⟨_, rfl⟩
  rw [hxs5] at hs5
  have HX5 := Aside0.mk hxs5
  rw [hxs5]
  have hb5 := hs5.swap.blk
  have hnew : wx9r6.cell? ⟨p, 0, none⟩ = some (.slice A0 m c0) ∧ wx9r6.cell? ⟨p, 257, none⟩ = some (.int .i64 (n : Int)) := ⟨fsC_b _ _ _ hb5 0 (by omega), by rw [fsC_b _ _ _ hb5 257 (by omega), ← hzl]; rfl⟩
  have HD5 := Aside0.mk hs5.swap
  clear hs5 hb5 hxs5
  refine hK.out _ _ hnew ?_
  clear hK K
  refine rg_norm (a' := ?_) ?_ ?_
  rotate_left
  · simp only [Act.put, List.setIfInBounds_toArray, List.set_cons_zero, List.set_cons_succ]
    rfl
  clear hHeld
  have hHeld := hnew
  clear hnew
  refine rg_take (i := 15) (N := some 57) (v := ?_) (a' := ?_) (bm 20 262143) rfl rfl (by kernel_rfl) (fun _ _ _ h => h) hHeld (Or.inl ⟨by rfl, ?_⟩) ?_ ?_
  rotate_left
  · intro w' hw'
    have s0 := hw'.1
    have s1 := hw'.2
    have hc1 : (n : Int) < 64 := by omega
    have hc2 : (0 : Int) ≤ (n : Int) := by omega
    go_simp
    with_reducible rfl
  rotate_left
  · simp only [Act.put, List.setIfInBounds_toArray, List.set_cons_zero, List.set_cons_succ]
    rfl
  refine rg_take (i := 18) (N := some 60) (v := ?_) (a' := ?_) (bm 20 524287) rfl rfl (by kernel_rfl) (fun _ _ _ h => h) hHeld (Or.inl ⟨by rfl, ?_⟩) ?_ ?_
  rotate_left
  · intro w' hw'
    have s0 := hw'.1
    have s1 := hw'.2
    have hc1 : (n : Int) < 64 := by omega
    have hc2 : (0 : Int) ≤ (n : Int) := by omega
    go_simp
    with_reducible rfl
  rotate_left
  · simp only [Act.put, List.setIfInBounds_toArray, List.set_cons_zero, List.set_cons_succ]
    rfl
  refine rg_ready [19] (by kernel_rfl) (by simp) ?_
  refine rg_one (i := 19) (N := none) (bm 20 1048575) rfl rfl (by kernel_rfl) (fun K hK => ?_) rg_nil
  have hb6 := HD5.out.blk
  have x0 := fsC_b _ _ _ hb6 (1 + n * 4) (by omega)
  have x1 := fsC_b _ _ _ hb6 (1 + n * 4 + 1) (by omega)
  have x2 := fsC_b _ _ _ hb6 (1 + n * 4 + 2) (by omega)
  have x3 := fsC_b _ _ _ hb6 (1 + n * 4 + 3) (by omega)
  have f0 := blk_frozen hb6 (1 + n * 4)
  have f1 := blk_frozen hb6 (1 + n * 4 + 1)
  have f2 := blk_frozen hb6 (1 + n * 4 + 2)
  have f3 := blk_frozen hb6 (1 + n * 4 + 3)
  have h6 := HD5.out.set4 (1 + n * 4) (.int .i64 a) (.int .i64 b) (.slice A5 xs5.length c5) (.int .i64 (m : Int))
  have hb7 := h6.blk
  have hnew : _ ∧ _ := And.intro (((blk_cell hb7 0).trans (blk_set4 _ _ _ _ (by omega))).trans ((fsC_at _ _ _ 0 (by omega)).trans (congrArg some e0))) ((((blk_cell hb7 257).trans (blk_set4 _ _ _ _ (by omega))).trans (fsC_at _ _ _ 257 (by omega))).trans (congrArg some e257))
  have HD6 := Aside0.mk h6
  clear hb6 h6 hb7
  go_simp
  refine hK.out undef _ hnew ?_
  clear hK K
  refine rg_norm (a' := ?_) ?_ ?_
  rotate_left
  · simp only [Act.put, List.setIfInBounds_toArray, List.set_cons_zero, List.set_cons_succ]
    rfl
  clear hHeld
  have hHeld := hnew
  clear hnew
  refine rg_done (by kernel_rfl) ?_
  have s2 := hHeld.2
  have f7 := blk_frozen HD6.out.blk 257
  go_wp2
  go_ret
  refine ⟨rfl, ?_⟩
  have h8 := HD6.out.set1 257 (.int .i64 ((n + 1 : Nat) : Int))
  rw [fsC_push (.slice A0 m c0) z s.room (⟨a, b, xs5, (m : Int)⟩, .slice A5 xs5.length c5) n hzl hn64] at h8
  have h9 : SB w0 _ (Sep (rowsOf z ++ [Row (Kd.int .u64) 35 (.slice A5 xs5.length c5) xs5]) :: Box p _ 72 :: Row (Kd.int .u64) 35 (.slice A0 m c0) (s.v.take m) :: L) := SB.sepPush (h8.pick4 [1, 3, 0, 2])
  have h10 := h9.pick3 [1, 2, 0]
  rw [← rowsOf_push z (⟨a, b, xs5, (m : Int)⟩, .slice A5 xs5.length c5)] at h10
  have hkk := HK.out
  rw [HX5.out]
  exact SB.close_ (s := { s with v := s.v.take m, fr := s.fr ++ [⟨a, b, xs5, (m : Int)⟩] }) (by rw [List.map_append, hz]; rfl) ⟨hkk.room0, hkk.room, by have := HZ.out; have := HN.out; simp; omega, fun f hf => by
    rcases List.mem_append.1 hf with hf | hf
    · exact hkk.base f hf
    · rw [List.mem_singleton.1 hf]
      exact ⟨by show (0 : Int) ≤ (m : Int); omega, by show (m : Int) ≤ 1000000000000; omega⟩⟩ h10
end Go.Proofs.Ytbbgkelcdooabaa.G
