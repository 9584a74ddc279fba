/- The document's stacks: Go, Top, Local, SetLocal. -/
import Derived.Deep.DeepMust
import Derived.Test.YtbbgkelcdooabaaFraT
import Derived.Test.YtbbgkelcdooabaaFraH
namespace Go.Proofs.Ytbbgkelcdooabaa.G
open Go.RowKit Go.Proofs.YtbbgkelcdooabaaW.PrintWords Go.Proofs.YtbbgkelcdooabaaW.PrintLast Go.Proofs.YtbbgkelcdooabaaW.PrintMore
set_option linter.unusedVariables false
set_option linter.unusedSimpArgs false
theorem cell_same {w w1 : World} {k i : Nat} (h : w1.heap[k]? = w.heap[k]?) : w1.cell? ⟨k, i, none⟩ = w.cell? ⟨k, i, none⟩ := by
  unfold World.cell?
  simp [h]
theorem cell_away (w : World) (b j : Nat) (u : Value) {k i : Nat} (h : k ≠ b) : (w.setCell ⟨b, j, none⟩ u).cell? ⟨k, i, none⟩ = w.cell? ⟨k, i, none⟩ := cell_same (Below.heap_setCell w ⟨b, j, none⟩ u k h)
theorem cell_lt {w : World} {k i : Nat} {v : Value} (h : w.cell? ⟨k, i, none⟩ = some v) : k < w.heap.size := by
  rcases Nat.lt_or_ge k w.heap.size with h1 | h1
  · exact h1
  · unfold World.cell? at h
    rw [Array.getElem?_eq_none h1] at h
    simp at h
/-- The top frame's pc, to be set. -/
theorem xo_pc {w0 w : World} {g : Nat} {s : FS} {L : List As} (h : SB w0 w (XO g s :: L)) {fr0 : List Fm} {x : Fm} (hx : s.fr = fr0 ++ [x]) :
    ∃ gf cf, w.cell? ⟨g, 1, none⟩ = some (.slice (some ⟨gf, 0, none⟩) (fr0.length + 1) cf) ∧ fr0.length + 1 ≤ cf ∧ w.cell? ⟨gf, fr0.length * 4 + 1, none⟩ = some (.int .i64 x.pc) ∧ w.frozen? ⟨gf, fr0.length * 4 + 1, none⟩ = false ∧
      ∀ pc, SB w0 (w.setCell ⟨gf, fr0.length * 4 + 1, none⟩ (.int .i64 pc)) (XO g { s with fr := fr0 ++ [{ x with pc := pc }] } :: L) ∧ (w.setCell ⟨gf, fr0.length * 4 + 1, none⟩ (.int .i64 pc)).cell? ⟨g, 1, none⟩ = some (.slice (some ⟨gf, 0, none⟩) (fr0.length + 1) cf) := by
  obtain ⟨v, vf, z, hz, h1⟩ := h.xopen
  have hb := h1.blk
  obtain ⟨z0, y, rfl⟩ : ∃ z0 y, z = z0 ++ [y] := by
    rcases List.eq_nil_or_concat z with h | ⟨z0, y, h⟩
    · rw [h, hx] at hz; simp at hz
    · exact ⟨z0, y, by rw [h, List.concat_eq_append]⟩
  rw [List.map_append, hx] at hz
  obtain ⟨hz1, hz2⟩ := List.append_inj' hz rfl
  have hl0 : z0.length = fr0.length := by rw [← hz1]; simp
  have hy : y.1 = x := by simpa using hz2
  obtain ⟨y1, y2⟩ := y
  obtain rfl : y1 = x := hy
  obtain ⟨Af, cf, rfl, hcf, _⟩ := (h1.pick3 [2]).reads
  have hlen : ((z0 ++ [(y1, y2)]).map fm4).length = fr0.length + 1 := by simp [hl0]
  obtain ⟨gf, rfl, hcell, hfro, hset⟩ := (h1.pick3 [2, 0, 1]).rawAt fr0.length (by rw [hlen]; omega)
  have hget : ((z0 ++ [(y1, y2)]).map fm4)[fr0.length]'(by rw [hlen]; omega) = fm4 (y1, y2) := by
    simp only [List.getElem_map]
    rw [List.getElem_append_right (by omega)]
    simp
  simp only [hget] at hcell hset
  rw [hlen] at hb hcf
  refine ⟨gf, cf, blk_cell hb 1, hcf, hcell 1 (by omega), hfro _, fun pc => ?_⟩
  have h3 := hset 1 (.int .i64 pc) (by omega) rfl
  have e1 : ((z0 ++ [(y1, y2)]).map fm4).set fr0.length ((fm4 (y1, y2)).set 1 (.int .i64 pc)) = (z0 ++ [({ y1 with pc := pc }, y2)]).map fm4 := by
    rw [List.map_append, List.map_append, List.set_append_right _ _ (by rw [List.length_map]; omega), List.length_map, hl0, Nat.sub_self]
    rfl
  rw [e1] at h3
  have e2 : rowsOf (z0 ++ [(y1, y2)]) = rowsOf (z0 ++ [({ y1 with pc := pc }, y2)]) := by rw [rowsOf_push, rowsOf_push]
  rw [e2] at h3
  have h4 := h3.pick3 [1, 2, 0]
  refine ⟨SB.xclose (s := { s with fr := fr0 ++ [{ y1 with pc := pc }] }) (by rw [List.map_append, hz1]; rfl) h4, ?_⟩
  have := blk_cell h4.blk 1
  rw [hlen] at this
  exact this
/-- The top frame's locals, to be set. -/
theorem xo_loc {w0 w : World} {g : Nat} {s : FS} {L : List As} (h : SB w0 w (XO g s :: L)) {fr0 : List Fm} {x : Fm} (hx : s.fr = fr0 ++ [x]) (i : Nat) (hi : i < x.loc.length) :
    ∃ gf cf gl c, w.cell? ⟨g, 1, none⟩ = some (.slice (some ⟨gf, 0, none⟩) (fr0.length + 1) cf) ∧ fr0.length + 1 ≤ cf ∧ w.cell? ⟨gf, fr0.length * 4 + 2, none⟩ = some (.slice (some ⟨gl, 0, none⟩) x.loc.length c) ∧ w.cell? ⟨gl, i, none⟩ = some (.int .u64 x.loc[i]) ∧ w.frozen? ⟨gl, i, none⟩ = false ∧
      ∀ u, SB w0 (w.setCell ⟨gl, i, none⟩ (.int .u64 u)) (XO g { s with fr := fr0 ++ [{ x with loc := x.loc.set i u }] } :: L) ∧ (w.setCell ⟨gl, i, none⟩ (.int .u64 u)).cell? ⟨g, 1, none⟩ = some (.slice (some ⟨gf, 0, none⟩) (fr0.length + 1) cf) ∧ (w.setCell ⟨gl, i, none⟩ (.int .u64 u)).cell? ⟨gf, fr0.length * 4 + 2, none⟩ = some (.slice (some ⟨gl, 0, none⟩) x.loc.length c) := by
  obtain ⟨v, vf, z, hz, h1⟩ := h.xopen
  have hb := h1.blk
  obtain ⟨z0, y, rfl⟩ : ∃ z0 y, z = z0 ++ [y] := by
    rcases List.eq_nil_or_concat z with h | ⟨z0, y, h⟩
    · rw [h, hx] at hz; simp at hz
    · exact ⟨z0, y, by rw [h, List.concat_eq_append]⟩
  rw [List.map_append, hx] at hz
  obtain ⟨hz1, hz2⟩ := List.append_inj' hz rfl
  have hl0 : z0.length = fr0.length := by rw [← hz1]; simp
  have hy : y.1 = x := by simpa using hz2
  obtain ⟨y1, y2⟩ := y
  obtain rfl : y1 = x := hy
  obtain ⟨Af, cf, rfl, hcf, _⟩ := (h1.pick3 [2]).reads
  have hlen : ((z0 ++ [(y1, y2)]).map fm4).length = fr0.length + 1 := by simp [hl0]
  have h1' := h1
  rw [rowsOf_push] at h1'
  have h2 := SB.sepPop (h1'.pick4 [3, 0, 1, 2])
  obtain ⟨gl, c, e, hlc, hlf, hls⟩ := h2.rowAt i hi
  dsimp only at e
  subst e
  obtain ⟨gf, rfl, hcell, hfro, _⟩ := (h1.pick3 [2, 0, 1]).rawAt fr0.length (by rw [hlen]; omega)
  have hget : ((z0 ++ [(y1, Value.slice (some ⟨gl, 0, none⟩) y1.loc.length c)]).map fm4)[fr0.length]'(by rw [List.length_map, List.length_append, hl0]; exact Nat.lt_succ_self _) = fm4 (y1, .slice (some ⟨gl, 0, none⟩) y1.loc.length c) := by
    simp only [List.getElem_map]
    rw [List.getElem_append_right (by omega)]
    simp
  simp only [hget] at hcell
  rw [hlen] at hb hcf
  refine ⟨gf, cf, gl, c, blk_cell hb 1, hcf, hcell 2 (by omega), hlc, hlf, fun u => ?_⟩
  have h3 := hls u
  have h4 := (SB.sepPush h3).pick4 [1, 2, 3, 0]
  have e2 : rowsOf (z0 ++ [({ y1 with loc := y1.loc.set i u }, Value.slice (some ⟨gl, 0, none⟩) y1.loc.length c)]) = rowsOf z0 ++ [Row (Kd.int .u64) 35 (.slice (some ⟨gl, 0, none⟩) y1.loc.length c) (y1.loc.set i u)] := rowsOf_push _ _
  have e1 : (z0 ++ [(y1, Value.slice (some ⟨gl, 0, none⟩) y1.loc.length c)]).map fm4 = (z0 ++ [({ y1 with loc := y1.loc.set i u }, Value.slice (some ⟨gl, 0, none⟩) y1.loc.length c)]).map fm4 := by rw [List.map_append, List.map_append]; rfl
  have h5 : SB w0 (w.setCell ⟨gl, i, none⟩ (.int .u64 u)) (Box g #[v, .slice (some ⟨gf, 0, none⟩) (fr0.length + 1) cf, .int .i64 s.room] 56 :: Row (Kd.int .u64) 35 v s.v :: Row (Kd.raw 4) 61 (.slice (some ⟨gf, 0, none⟩) (fr0.length + 1) cf) ((z0 ++ [({ y1 with loc := y1.loc.set i u }, Value.slice (some ⟨gl, 0, none⟩) y1.loc.length c)]).map fm4) :: Sep (rowsOf (z0 ++ [({ y1 with loc := y1.loc.set i u }, Value.slice (some ⟨gl, 0, none⟩) y1.loc.length c)])) :: L) := by
    rw [e2, ← e1]
    have := h4
    rw [hlen] at this
    exact this
  refine ⟨SB.xclose (s := { s with fr := fr0 ++ [{ y1 with loc := y1.loc.set i u }] }) (by rw [List.map_append, hz1]; rfl) h5, blk_cell h5.blk 1, ?_⟩
  obtain ⟨gf', e', hcell', _, _⟩ := (h5.pick3 [2, 0, 1]).rawAt fr0.length (by rw [List.length_map, List.length_append, hl0]; exact Nat.lt_succ_self _)
  injection e' with e'
  injection e' with e'
  subst e'
  have hget' : ((z0 ++ [({ y1 with loc := y1.loc.set i u }, Value.slice (some ⟨gl, 0, none⟩) y1.loc.length c)]).map fm4)[fr0.length]'(by rw [List.length_map, List.length_append, hl0]; exact Nat.lt_succ_self _) = fm4 ({ y1 with loc := y1.loc.set i u }, .slice (some ⟨gl, 0, none⟩) y1.loc.length c) := by
    simp only [List.getElem_map]
    rw [List.getElem_append_right (by omega)]
    simp
  simp only [hget'] at hcell'
  exact hcell' 2 (by omega)
theorem xGoNo {w0 w : World} {L : List As} {g : Nat} {s : FS} (hS : SB w0 w (XO g s :: L)) (pc : Int) (hf : s.fr = []) :
    Calls Try.prog 48 #[.pointer (some ⟨g, 0, none⟩), .int .i64 pc] w fun e w' => e = .returned (.bool false) ∧ SB w0 w' (XO g s :: L) := by
  obtain ⟨A, c0, Af, cf, s0, s1, s2, hc, hcf, hC⟩ := xo_cells hS
  rw [hf] at s1
  have HS := Aside0.mk hS
  clear hS hC hc hcf hf
  go_enter Try.func48, Try.ntmps48
  go_wp2
  go_ret
  exact ⟨rfl, HS.out⟩
theorem xGoOk {w0 w : World} {L : List As} {g : Nat} {s : FS} (hS : SB w0 w (XO g s :: L)) (hF : s.fr.length ≤ 64) {fr0 : List Fm} {x : Fm} (hx : s.fr = fr0 ++ [x]) (pc : Int) :
    Calls Try.prog 48 #[.pointer (some ⟨g, 0, none⟩), .int .i64 pc] w fun e w' => e = .returned (.bool true) ∧ SB w0 w' (XO g { s with fr := fr0 ++ [{ x with pc := pc }] } :: L) := by
  obtain ⟨gf, cf, s1, hcf, t1, t2, hset⟩ := xo_pc hS.drew hx
  have s1w := s1
  obtain ⟨n, hn⟩ : ∃ n, fr0.length = n := ⟨_, rfl⟩
  have hn64 : n + 1 ≤ 64 := by rw [hx] at hF; simp at hF; omega
  rw [hn] at s1 s1w hcf t1 t2 hset
  have s1' : w.cell? ⟨g, 1, none⟩ = some (.slice (some ⟨gf, 0, none⟩) (n + 1) cf) := s1
  have hwn : IntKind.i64.wrap (n : Int) = (n : Int) := by rw [IntKind.wrap_i64]; omega
  have hb0 : ((n : Int) + 1 == 0) = false := beq_eq_false_iff_ne.2 (by omega)
  have HT := Aside0.mk (And.intro s1w (And.intro t1 (And.intro t2 (hset pc))))
  clear hS hF hx hn hset t1 t2 s1w
  go_enter Try.func48, Try.ntmps48
  go_wp2
  refine rg_startL (n := 14) (S := fun w' => w'.cell? ⟨g, 1, none⟩ = some (.slice (some ⟨gf, 0, none⟩) (n + 1) cf)) (bm 14 0) (by kernel_rfl) rfl (by kernel_rfl) (s1) (fun wd hwd hHeld => ?_)
  refine rg_take (i := 0) (N := some 11) (v := ?_) (a' := ?_) (bm 14 1) rfl rfl (by kernel_rfl) (fun _ _ _ h => h) hHeld (Or.inl ⟨by rfl, ?_⟩) ?_ ?_
  rotate_left
  · intro w' hw'
    have s1 := hw'
    have hc1 : (n : Int) < (n : Int) + 1 := by omega
    have hc2 : (0 : Int) ≤ (n : Int) := by omega
    go_simp
    with_reducible rfl
  rotate_left
  · simp only [Act.put, List.setIfInBounds_toArray, List.set_cons_zero, List.set_cons_succ]
    rfl
  refine rg_take (i := 1) (N := some 12) (v := ?_) (a' := ?_) (bm 14 3) rfl rfl (by kernel_rfl) (fun _ _ _ h => h) hHeld (Or.inl ⟨by rfl, ?_⟩) ?_ ?_
  rotate_left
  · intro w' hw'
    have s1 := hw'
    have hc1 : (n : Int) < (n : Int) + 1 := by omega
    have hc2 : (0 : Int) ≤ (n : Int) := by omega
    go_simp
    with_reducible rfl
  rotate_left
  · simp only [Act.put, List.setIfInBounds_toArray, List.set_cons_zero, List.set_cons_succ]
    rfl
  refine rg_take (i := 2) (N := some 13) (v := ?_) (a' := ?_) (bm 14 7) rfl rfl (by kernel_rfl) (fun _ _ _ h => h) hHeld (Or.inl ⟨by rfl, ?_⟩) ?_ ?_
  rotate_left
  · intro w' hw'
    have s1 := hw'
    have hc1 : (n : Int) < (n : Int) + 1 := by omega
    have hc2 : (0 : Int) ≤ (n : Int) := by omega
    go_simp
    with_reducible rfl
  rotate_left
  · simp only [Act.put, List.setIfInBounds_toArray, List.set_cons_zero, List.set_cons_succ]
    rfl
  refine rg_take (i := 3) (N := some 14) (v := ?_) (a' := ?_) (bm 14 15) rfl rfl (by kernel_rfl) (fun _ _ _ h => h) hHeld (Or.inl ⟨by rfl, ?_⟩) ?_ ?_
  rotate_left
  · intro w' hw'
    have s1 := hw'
    have hc1 : (n : Int) < (n : Int) + 1 := by omega
    have hc2 : (0 : Int) ≤ (n : Int) := by omega
    go_simp
    with_reducible rfl
  rotate_left
  · simp only [Act.put, List.setIfInBounds_toArray, List.set_cons_zero, List.set_cons_succ]
    rfl
  refine rg_take (i := 4) (N := some 15) (v := ?_) (a' := ?_) (bm 14 31) rfl rfl (by kernel_rfl) (fun _ _ _ h => h) hHeld (Or.inl ⟨by rfl, ?_⟩) ?_ ?_
  rotate_left
  · intro w' hw'
    have s1 := hw'
    have hc1 : (n : Int) < (n : Int) + 1 := by omega
    have hc2 : (0 : Int) ≤ (n : Int) := by omega
    go_simp
    with_reducible rfl
  rotate_left
  · simp only [Act.put, List.setIfInBounds_toArray, List.set_cons_zero, List.set_cons_succ]
    rfl
  refine rg_take (i := 5) (N := some 16) (v := ?_) (a' := ?_) (bm 14 63) rfl rfl (by kernel_rfl) (fun _ _ _ h => h) hHeld (Or.inl ⟨by rfl, ?_⟩) ?_ ?_
  rotate_left
  · intro w' hw'
    have s1 := hw'
    have hc1 : (n : Int) < (n : Int) + 1 := by omega
    have hc2 : (0 : Int) ≤ (n : Int) := by omega
    go_simp
    with_reducible rfl
  rotate_left
  · simp only [Act.put, List.setIfInBounds_toArray, List.set_cons_zero, List.set_cons_succ]
    rfl
  refine rg_take (i := 6) (N := some 17) (v := ?_) (a' := ?_) (bm 14 127) rfl rfl (by kernel_rfl) (fun _ _ _ h => h) hHeld (Or.inl ⟨by rfl, ?_⟩) ?_ ?_
  rotate_left
  · intro w' hw'
    have s1 := hw'
    have hc1 : (n : Int) < (n : Int) + 1 := by omega
    have hc2 : (0 : Int) ≤ (n : Int) := by omega
    go_simp
    with_reducible rfl
  rotate_left
  · simp only [Act.put, List.setIfInBounds_toArray, List.set_cons_zero, List.set_cons_succ]
    rfl
  refine rg_take (i := 7) (N := some 18) (v := ?_) (a' := ?_) (bm 14 255) rfl rfl (by kernel_rfl) (fun _ _ _ h => h) hHeld (Or.inl ⟨by rfl, ?_⟩) ?_ ?_
  rotate_left
  · intro w' hw'
    have s1 := hw'
    have hc1 : (n : Int) < (n : Int) + 1 := by omega
    have hc2 : (0 : Int) ≤ (n : Int) := by omega
    go_simp
    with_reducible rfl
  rotate_left
  · simp only [Act.put, List.setIfInBounds_toArray, List.set_cons_zero, List.set_cons_succ]
    rfl
  refine rg_take (i := 8) (N := some 19) (v := ?_) (a' := ?_) (bm 14 511) rfl rfl (by kernel_rfl) (fun _ _ _ h => h) hHeld (Or.inl ⟨by rfl, ?_⟩) ?_ ?_
  rotate_left
  · intro w' hw'
    have s1 := hw'
    have hc1 : (n : Int) < (n : Int) + 1 := by omega
    have hc2 : (0 : Int) ≤ (n : Int) := by omega
    go_simp
    with_reducible rfl
  rotate_left
  · simp only [Act.put, List.setIfInBounds_toArray, List.set_cons_zero, List.set_cons_succ]
    rfl
  refine rg_take (i := 9) (N := some 20) (v := ?_) (a' := ?_) (bm 14 1023) rfl rfl (by kernel_rfl) (fun _ _ _ h => h) hHeld (Or.inl ⟨by rfl, ?_⟩) ?_ ?_
  rotate_left
  · intro w' hw'
    have s1 := hw'
    have hc1 : (n : Int) < (n : Int) + 1 := by omega
    have hc2 : (0 : Int) ≤ (n : Int) := by omega
    go_simp
    with_reducible rfl
  rotate_left
  · simp only [Act.put, List.setIfInBounds_toArray, List.set_cons_zero, List.set_cons_succ]
    rfl
  refine rg_take (i := 10) (N := some 21) (v := ?_) (a' := ?_) (bm 14 2047) rfl rfl (by kernel_rfl) (fun _ _ _ h => h) hHeld (Or.inl ⟨by rfl, ?_⟩) ?_ ?_
  rotate_left
  · intro w' hw'
    have s1 := hw'
    have hc1 : (n : Int) < (n : Int) + 1 := by omega
    have hc2 : (0 : Int) ≤ (n : Int) := by omega
    go_simp
    with_reducible rfl
  rotate_left
  · simp only [Act.put, List.setIfInBounds_toArray, List.set_cons_zero, List.set_cons_succ]
    rfl
  refine rg_take (i := 11) (N := some 22) (v := ?_) (a' := ?_) (bm 14 4095) rfl rfl (by kernel_rfl) (fun _ _ _ h => h) hHeld (Or.inl ⟨by rfl, ?_⟩) ?_ ?_
  rotate_left
  · intro w' hw'
    have s1 := hw'
    have hc1 : (n : Int) < (n : Int) + 1 := by omega
    have hc2 : (0 : Int) ≤ (n : Int) := by omega
    go_simp
    with_reducible rfl
  rotate_left
  · simp only [Act.put, List.setIfInBounds_toArray, List.set_cons_zero, List.set_cons_succ]
    rfl
  refine rg_take (i := 12) (N := some 23) (v := ?_) (a' := ?_) (bm 14 8191) rfl rfl (by kernel_rfl) (fun _ _ _ h => h) hHeld (Or.inl ⟨by rfl, ?_⟩) ?_ ?_
  rotate_left
  · intro w' hw'
    have s1 := hw'
    have hc1 : (n : Int) < (n : Int) + 1 := by omega
    have hc2 : (0 : Int) ≤ (n : Int) := by omega
    go_simp
    with_reducible rfl
  rotate_left
  · simp only [Act.put, List.setIfInBounds_toArray, List.set_cons_zero, List.set_cons_succ]
    rfl
  refine rg_ready [13] (by kernel_rfl) (by simp) ?_
  refine rg_one (i := 13) (N := none) (bm 14 16383) rfl rfl (by kernel_rfl) (fun K hK => ?_) rg_nil
  have t1 : wd.cell? ⟨gf, n * 4 + 1, none⟩ = some (.int .i64 x.pc) := hwd.out ▸ HT.out.2.1
  have t2 : wd.frozen? ⟨gf, n * 4 + 1, none⟩ = false := hwd.out ▸ HT.out.2.2.1
  have hnew : (wd.setCell ⟨gf, n * 4 + 1, none⟩ (.int .i64 pc)).cell? ⟨g, 1, none⟩ = some (.slice (some ⟨gf, 0, none⟩) (n + 1) cf) := hwd.out ▸ HT.out.2.2.2.2
  go_simp
  refine hK.out undef _ hnew ?_
  clear hK K
  refine rg_norm (a' := ?_) ?_ ?_
  rotate_left
  · simp only [Act.put, List.setIfInBounds_toArray, List.set_cons_zero, List.set_cons_succ]
    rfl
  clear hHeld
  have hHeld := hnew
  clear hnew
  refine rg_done (by kernel_rfl) ?_
  go_wp2
  go_ret
  exact ⟨rfl, hwd.out ▸ HT.out.2.2.2.1⟩
theorem xTopNo {w0 w : World} {L : List As} {g : Nat} {s : FS} (hS : SB w0 w (XO g s :: L)) (hf : s.fr = []) :
    Calls Try.prog 28 #[.pointer (some ⟨g, 0, none⟩)] w fun e w' => e = .returned (.tuple #[.agg #[.int .i64 0, .int .i64 0, .slice none 0 0, .int .i64 0], .bool false]) ∧ SB w0 w' (XO g s :: L) := by
  obtain ⟨A, c0, Af, cf, s0, s1, s2, hc, hcf, hC⟩ := xo_cells hS
  rw [hf] at s1
  have HS := Aside0.mk (hS.box #[.int .i64 0, .int .i64 0, .slice none 0 0, .int .i64 0] 61)
  have hc := pw_cell_below (below_alloc (Below.refl _ w) (.cells #[.int .i64 0, .int .i64 0, .slice none 0 0, .int .i64 0] 61)) s1
  clear hS hC hcf hf s0 s2
  go_enter Try.func28, Try.ntmps28
  go_wp2
  refine bodyPost_ret (v := .tuple #[.agg #[.int .i64 0, .int .i64 0, .slice none 0 0, .int .i64 0], .bool false]) (by simp [results, Try.results28, go_sem, *]) rfl ?_
  refine ⟨rfl, ?_⟩
  exact HS.out.drop
set_option maxHeartbeats 4000000 in
theorem xTopOk {w0 w : World} {L : List As} {g : Nat} {s : FS} (hS : SB w0 w (XO g s :: L)) (hF : s.fr.length ≤ 64) {fr0 : List Fm} {x : Fm} (hx : s.fr = fr0 ++ [x]) (hl : x.loc.length ≤ 1000000) :
    Calls Try.prog 28 #[.pointer (some ⟨g, 0, none⟩)] w fun e w' => ∃ v, e = .returned (.tuple #[.agg #[.int .i64 x.f, .int .i64 x.pc, v, .int .i64 x.base], .bool true]) ∧ SB w0 w' (Row (Kd.int .u64) 35 v x.loc :: XO g s :: L) := by
  obtain ⟨gf, cf, A, c, s1, hcf, t0, t1, t2, t3, hC, hc⟩ := xo_top hS hx
  obtain ⟨n, hn⟩ : ∃ n, fr0.length = n := ⟨_, rfl⟩
  have hn64 : n + 1 ≤ 64 := by rw [hx] at hF; simp at hF; omega
  rw [hn] at s1 hcf t0 t1 t2 t3
  have hwn : IntKind.i64.wrap (n : Int) = (n : Int) := by rw [IntKind.wrap_i64]; omega
  have hb0 : ((n : Int) + 1 == 0) = false := beq_eq_false_iff_ne.2 (by omega)
  have hg := cell_lt s1
  have hgf := cell_lt t0
  obtain ⟨b, hb⟩ : ∃ b, w.heap.size = b := ⟨_, rfl⟩
  have hS2 := hS.box #[.int .i64 0, .int .i64 0, .slice none 0 0, .int .i64 0] 61
  rw [hb] at hS2 hg hgf
  have hgb : g ≠ b := by omega
  have hgfb : gf ≠ b := by omega
  have hal := below_alloc (Below.refl w.heap.size w) (.cells #[.int .i64 0, .int .i64 0, .slice none 0 0, .int .i64 0] 61)
  have s1 := pw_cell_below hal s1
  have t0 := pw_cell_below hal t0
  have t1 := pw_cell_below hal t1
  have t2 := pw_cell_below hal t2
  have t3 := pw_cell_below hal t3
  have HCC := Aside0.mk (Kd.C_below hC (below_drew hal))
  have HDF := Aside0.mk hS2.drew
  have HTT := Aside0.mk (And.intro s1 (And.intro t0 (And.intro t1 (And.intro t2 t3))))
  clear hS hF hx hn hC hS2 hal hg hgf t0 t1 t2 t3
  go_enter Try.func28, Try.ntmps28
  go_wp2
  refine rg_startL (n := 15) (S := fun w' => w'.cell? ⟨g, 1, none⟩ = some (.slice (some ⟨gf, 0, none⟩) (n + 1) cf) ∧ w'.cell? ⟨gf, n * 4, none⟩ = some (.int .i64 x.f) ∧ w'.cell? ⟨gf, n * 4 + 1, none⟩ = some (.int .i64 x.pc) ∧ w'.cell? ⟨gf, n * 4 + 2, none⟩ = some (.slice A x.loc.length c) ∧ w'.cell? ⟨gf, n * 4 + 3, none⟩ = some (.int .i64 x.base)) (bm 15 0) (by kernel_rfl) rfl (by kernel_rfl) (HTT.out) (fun wd hwd hHeld => ?_)
  refine rg_take (i := 0) (N := some 11) (v := ?_) (a' := ?_) (bm 15 1) rfl rfl (by kernel_rfl) (fun _ _ _ h => h) hHeld (Or.inl ⟨by rfl, ?_⟩) ?_ ?_
  rotate_left
  · intro w' hw'
    have s1 := hw'.1
    have t0 := hw'.2.1
    have t1 := hw'.2.2.1
    have t2 := hw'.2.2.2.1
    have t3 := hw'.2.2.2.2
    have hc1 : (n : Int) < (n : Int) + 1 := by omega
    have hc2 : (0 : Int) ≤ (n : Int) := by omega
    go_simp
    with_reducible rfl
  rotate_left
  · simp only [Act.put, List.setIfInBounds_toArray, List.set_cons_zero, List.set_cons_succ]
    rfl
  refine rg_take (i := 1) (N := some 12) (v := ?_) (a' := ?_) (bm 15 3) rfl rfl (by kernel_rfl) (fun _ _ _ h => h) hHeld (Or.inl ⟨by rfl, ?_⟩) ?_ ?_
  rotate_left
  · intro w' hw'
    have s1 := hw'.1
    have t0 := hw'.2.1
    have t1 := hw'.2.2.1
    have t2 := hw'.2.2.2.1
    have t3 := hw'.2.2.2.2
    have hc1 : (n : Int) < (n : Int) + 1 := by omega
    have hc2 : (0 : Int) ≤ (n : Int) := by omega
    go_simp
    with_reducible rfl
  rotate_left
  · simp only [Act.put, List.setIfInBounds_toArray, List.set_cons_zero, List.set_cons_succ]
    rfl
  refine rg_take (i := 2) (N := some 13) (v := ?_) (a' := ?_) (bm 15 7) rfl rfl (by kernel_rfl) (fun _ _ _ h => h) hHeld (Or.inl ⟨by rfl, ?_⟩) ?_ ?_
  rotate_left
  · intro w' hw'
    have s1 := hw'.1
    have t0 := hw'.2.1
    have t1 := hw'.2.2.1
    have t2 := hw'.2.2.2.1
    have t3 := hw'.2.2.2.2
    have hc1 : (n : Int) < (n : Int) + 1 := by omega
    have hc2 : (0 : Int) ≤ (n : Int) := by omega
    go_simp
    with_reducible rfl
  rotate_left
  · simp only [Act.put, List.setIfInBounds_toArray, List.set_cons_zero, List.set_cons_succ]
    rfl
  refine rg_take (i := 3) (N := some 14) (v := ?_) (a' := ?_) (bm 15 15) rfl rfl (by kernel_rfl) (fun _ _ _ h => h) hHeld (Or.inl ⟨by rfl, ?_⟩) ?_ ?_
  rotate_left
  · intro w' hw'
    have s1 := hw'.1
    have t0 := hw'.2.1
    have t1 := hw'.2.2.1
    have t2 := hw'.2.2.2.1
    have t3 := hw'.2.2.2.2
    have hc1 : (n : Int) < (n : Int) + 1 := by omega
    have hc2 : (0 : Int) ≤ (n : Int) := by omega
    go_simp
    with_reducible rfl
  rotate_left
  · simp only [Act.put, List.setIfInBounds_toArray, List.set_cons_zero, List.set_cons_succ]
    rfl
  refine rg_take (i := 4) (N := some 15) (v := ?_) (a' := ?_) (bm 15 31) rfl rfl (by kernel_rfl) (fun _ _ _ h => h) hHeld (Or.inl ⟨by rfl, ?_⟩) ?_ ?_
  rotate_left
  · intro w' hw'
    have s1 := hw'.1
    have t0 := hw'.2.1
    have t1 := hw'.2.2.1
    have t2 := hw'.2.2.2.1
    have t3 := hw'.2.2.2.2
    have hc1 : (n : Int) < (n : Int) + 1 := by omega
    have hc2 : (0 : Int) ≤ (n : Int) := by omega
    go_simp
    with_reducible rfl
  rotate_left
  · simp only [Act.put, List.setIfInBounds_toArray, List.set_cons_zero, List.set_cons_succ]
    rfl
  refine rg_take (i := 5) (N := some 16) (v := ?_) (a' := ?_) (bm 15 63) rfl rfl (by kernel_rfl) (fun _ _ _ h => h) hHeld (Or.inl ⟨by rfl, ?_⟩) ?_ ?_
  rotate_left
  · intro w' hw'
    have s1 := hw'.1
    have t0 := hw'.2.1
    have t1 := hw'.2.2.1
    have t2 := hw'.2.2.2.1
    have t3 := hw'.2.2.2.2
    have hc1 : (n : Int) < (n : Int) + 1 := by omega
    have hc2 : (0 : Int) ≤ (n : Int) := by omega
    go_simp
    with_reducible rfl
  rotate_left
  · simp only [Act.put, List.setIfInBounds_toArray, List.set_cons_zero, List.set_cons_succ]
    rfl
  refine rg_take (i := 6) (N := some 17) (v := ?_) (a' := ?_) (bm 15 127) rfl rfl (by kernel_rfl) (fun _ _ _ h => h) hHeld (Or.inl ⟨by rfl, ?_⟩) ?_ ?_
  rotate_left
  · intro w' hw'
    have s1 := hw'.1
    have t0 := hw'.2.1
    have t1 := hw'.2.2.1
    have t2 := hw'.2.2.2.1
    have t3 := hw'.2.2.2.2
    have hc1 : (n : Int) < (n : Int) + 1 := by omega
    have hc2 : (0 : Int) ≤ (n : Int) := by omega
    go_simp
    with_reducible rfl
  rotate_left
  · simp only [Act.put, List.setIfInBounds_toArray, List.set_cons_zero, List.set_cons_succ]
    rfl
  refine rg_take (i := 7) (N := some 18) (v := ?_) (a' := ?_) (bm 15 255) rfl rfl (by kernel_rfl) (fun _ _ _ h => h) hHeld (Or.inl ⟨by rfl, ?_⟩) ?_ ?_
  rotate_left
  · intro w' hw'
    have s1 := hw'.1
    have t0 := hw'.2.1
    have t1 := hw'.2.2.1
    have t2 := hw'.2.2.2.1
    have t3 := hw'.2.2.2.2
    have hc1 : (n : Int) < (n : Int) + 1 := by omega
    have hc2 : (0 : Int) ≤ (n : Int) := by omega
    go_simp
    with_reducible rfl
  rotate_left
  · simp only [Act.put, List.setIfInBounds_toArray, List.set_cons_zero, List.set_cons_succ]
    rfl
  refine rg_take (i := 8) (N := some 19) (v := ?_) (a' := ?_) (bm 15 511) rfl rfl (by kernel_rfl) (fun _ _ _ h => h) hHeld (Or.inl ⟨by rfl, ?_⟩) ?_ ?_
  rotate_left
  · intro w' hw'
    have s1 := hw'.1
    have t0 := hw'.2.1
    have t1 := hw'.2.2.1
    have t2 := hw'.2.2.2.1
    have t3 := hw'.2.2.2.2
    have hc1 : (n : Int) < (n : Int) + 1 := by omega
    have hc2 : (0 : Int) ≤ (n : Int) := by omega
    go_simp
    with_reducible rfl
  rotate_left
  · simp only [Act.put, List.setIfInBounds_toArray, List.set_cons_zero, List.set_cons_succ]
    rfl
  refine rg_take (i := 9) (N := some 20) (v := ?_) (a' := ?_) (bm 15 1023) rfl rfl (by kernel_rfl) (fun _ _ _ h => h) hHeld (Or.inl ⟨by rfl, ?_⟩) ?_ ?_
  rotate_left
  · intro w' hw'
    have s1 := hw'.1
    have t0 := hw'.2.1
    have t1 := hw'.2.2.1
    have t2 := hw'.2.2.2.1
    have t3 := hw'.2.2.2.2
    have hc1 : (n : Int) < (n : Int) + 1 := by omega
    have hc2 : (0 : Int) ≤ (n : Int) := by omega
    go_simp
    with_reducible rfl
  rotate_left
  · simp only [Act.put, List.setIfInBounds_toArray, List.set_cons_zero, List.set_cons_succ]
    rfl
  refine rg_take (i := 10) (N := some 21) (v := ?_) (a' := ?_) (bm 15 2047) rfl rfl (by kernel_rfl) (fun _ _ _ h => h) hHeld (Or.inl ⟨by rfl, ?_⟩) ?_ ?_
  rotate_left
  · intro w' hw'
    have s1 := hw'.1
    have t0 := hw'.2.1
    have t1 := hw'.2.2.1
    have t2 := hw'.2.2.2.1
    have t3 := hw'.2.2.2.2
    have hc1 : (n : Int) < (n : Int) + 1 := by omega
    have hc2 : (0 : Int) ≤ (n : Int) := by omega
    go_simp
    with_reducible rfl
  rotate_left
  · simp only [Act.put, List.setIfInBounds_toArray, List.set_cons_zero, List.set_cons_succ]
    rfl
  refine rg_take (i := 11) (N := some 22) (v := ?_) (a' := ?_) (bm 15 4095) rfl rfl (by kernel_rfl) (fun _ _ _ h => h) hHeld (Or.inl ⟨by rfl, ?_⟩) ?_ ?_
  rotate_left
  · intro w' hw'
    have s1 := hw'.1
    have t0 := hw'.2.1
    have t1 := hw'.2.2.1
    have t2 := hw'.2.2.2.1
    have t3 := hw'.2.2.2.2
    have hc1 : (n : Int) < (n : Int) + 1 := by omega
    have hc2 : (0 : Int) ≤ (n : Int) := by omega
    go_simp
    with_reducible rfl
  rotate_left
  · simp only [Act.put, List.setIfInBounds_toArray, List.set_cons_zero, List.set_cons_succ]
    rfl
  refine rg_ready [12] (by kernel_rfl) (by simp) ?_
  refine rg_one (i := 12) (N := some 23) (bm 15 8191) rfl rfl (by kernel_rfl) (fun K hK => ?_) rg_nil
  have HD := Aside0.mk (hwd.out ▸ HDF.out)
  have HCW := Aside0.mk (hwd.out ▸ HCC.out)
  go_simp
  go_at_call 51
  with_reducible refine (xCopied HD.out x.f x.pc x.base A c x.loc HCW.out hc hl).mono ?_
  rintro e wx12r3 ⟨v7, rfl, hs, hbel⟩
  obtain ⟨A7, c7, rfl, hc7, _⟩ := hs.reads
  have HT0 := Aside0.mk (hwd.out ▸ HTT.out : wd.cell? ⟨g, 1, none⟩ = some (.slice (some ⟨gf, 0, none⟩) (n + 1) cf) ∧ wd.cell? ⟨gf, n * 4, none⟩ = some (.int .i64 x.f) ∧ wd.cell? ⟨gf, n * 4 + 1, none⟩ = some (.int .i64 x.pc) ∧ wd.cell? ⟨gf, n * 4 + 2, none⟩ = some (.slice A x.loc.length c) ∧ wd.cell? ⟨gf, n * 4 + 3, none⟩ = some (.int .i64 x.base))
  have hnew : _ ∧ _ ∧ _ ∧ _ ∧ _ := ⟨pw_cell_below hbel HT0.out.1, pw_cell_below hbel HT0.out.2.1, pw_cell_below hbel HT0.out.2.2.1, pw_cell_below hbel HT0.out.2.2.2.1, pw_cell_below hbel HT0.out.2.2.2.2⟩
  have HN := Aside0.mk hnew
  have HD12 := Aside0.mk hs.swap
  clear hs hbel
  go_wp2_with fail
  refine hK.out _ _ hnew ?_
  clear hK K
  refine rg_norm (a' := ?_) ?_ ?_
  rotate_left
  · simp only [Act.put, List.setIfInBounds_toArray, List.set_cons_zero, List.set_cons_succ]
    rfl
  clear hHeld
  have hHeld := hnew
  clear hnew
  refine rg_ready [13] (by kernel_rfl) (by simp) ?_
  refine rg_one (i := 13) (N := none) (bm 15 16383) rfl rfl (by kernel_rfl) (fun K hK => ?_) rg_nil
  have hb13 := HD12.out.blk
  have x0 := blk_cell hb13 0
  have x1 := blk_cell hb13 1
  have x2 := blk_cell hb13 2
  have x3 := blk_cell hb13 3
  have f0 := blk_frozen hb13 0
  have f1 := blk_frozen hb13 1
  have f2 := blk_frozen hb13 2
  have f3 := blk_frozen hb13 3
  have HD13 := Aside0.mk (HD12.out.set4 0 (.int .i64 x.f) (.int .i64 x.pc) (.slice A7 x.loc.length c7) (.int .i64 x.base))
  have away : ∀ (W : World) (k i : Nat), k ≠ b → ((((W.setCell ⟨b, 0, none⟩ (.int .i64 x.f)).setCell ⟨b, 0 + 1, none⟩ (.int .i64 x.pc)).setCell ⟨b, 0 + 2, none⟩ (.slice A7 x.loc.length c7)).setCell ⟨b, 0 + 3, none⟩ (.int .i64 x.base)).cell? ⟨k, i, none⟩ = W.cell? ⟨k, i, none⟩ := fun W k i hk => by rw [cell_away _ _ _ _ hk, cell_away _ _ _ _ hk, cell_away _ _ _ _ hk, cell_away _ _ _ _ hk]
  have hnew : _ ∧ _ ∧ _ ∧ _ ∧ _ := ⟨(away _ _ _ hgb).trans HN.out.1, (away _ _ _ hgfb).trans HN.out.2.1, (away _ _ _ hgfb).trans HN.out.2.2.1, (away _ _ _ hgfb).trans HN.out.2.2.2.1, (away _ _ _ hgfb).trans HN.out.2.2.2.2⟩
  clear hb13 away
  go_simp
  refine hK.out undef _ hnew ?_
  clear hK K
  refine rg_norm (a' := ?_) ?_ ?_
  rotate_left
  · simp only [Act.put, List.setIfInBounds_toArray, List.set_cons_zero, List.set_cons_succ]
    rfl
  clear hHeld
  have hHeld := hnew
  clear hnew
  refine rg_take (i := 14) (N := some 3) (v := ?_) (a' := ?_) (bm 15 32767) rfl rfl (by kernel_rfl) (fun _ _ _ h => h) hHeld (Or.inl ⟨by rfl, ?_⟩) ?_ ?_
  rotate_left
  · intro w' hw'
    have s1 := hw'.1
    have t0 := hw'.2.1
    have t1 := hw'.2.2.1
    have t2 := hw'.2.2.2.1
    have t3 := hw'.2.2.2.2
    have hc1 : (n : Int) < (n : Int) + 1 := by omega
    have hc2 : (0 : Int) ≤ (n : Int) := by omega
    go_simp
    with_reducible rfl
  rotate_left
  · simp only [Act.put, List.setIfInBounds_toArray, List.set_cons_zero, List.set_cons_succ]
    rfl
  refine rg_done (by kernel_rfl) ?_
  have hb14 := HD13.out.blk
  have y0 := blk_cell hb14 0
  have y1 := blk_cell hb14 1
  have y2 := blk_cell hb14 2
  have y3 := blk_cell hb14 3
  go_wp2
  refine bodyPost_ret (v := .tuple #[.agg #[.int .i64 x.f, .int .i64 x.pc, .slice A7 x.loc.length c7, .int .i64 x.base], .bool true]) (by simp [results, Try.results28, go_sem, *]) rfl ?_
  exact ⟨_, rfl, HD13.out.drop⟩
theorem xLocalNo {w0 w : World} {L : List As} {g : Nat} {s : FS} (hS : SB w0 w (XO g s :: L)) (hF : s.fr.length ≤ 64) (hlc : ∀ f ∈ s.fr, f.loc.length ≤ 1000000) (i : Int) (hi : ¬ hasL s i) :
    Calls Try.prog 49 #[.pointer (some ⟨g, 0, none⟩), .int .i64 i] w fun e w' => e = .returned (.tuple #[.int .u64 0, .bool false]) ∧ SB w0 w' (XO g s :: L) := by
  rcases List.eq_nil_or_concat s.fr with e | ⟨fr0, x, e⟩
  · have HT := Aside0.mk (xTopNo hS e)
    clear hS hF hlc hi e
    go_enter Try.func49, Try.ntmps49
    go_wp2_with (go_at_call 28; go_must ((with_reducible refine (HT.out).mono ?_); rintro e w3 ⟨rfl, hs⟩; have HS3 := Aside0.mk (hs.box #[.int .i64 0, .int .i64 0, .slice none 0 0, .int .i64 0] 61); clear hs))
    go_ret2
    exact ⟨rfl, HS3.out.drop⟩
  · rw [List.concat_eq_append] at e
    have hlx := hlc x (by rw [e]; simp)
    have HT := Aside0.mk (xTopOk hS hF e hlx)
    have hi2 : ¬ (0 ≤ i ∧ i < (x.loc.length : Int)) := fun h => hi ⟨fr0, x, e, h⟩
    obtain ⟨lx, hx⟩ : ∃ l, x.loc.length = l := ⟨_, rfl⟩
    rw [hx] at hi2
    have HX := Aside0.mk hx
    clear hS hF hlc hi e hx hlx
    by_cases h0 : i < 0
    · have d0 : decide (i < 0) = true := decide_eq_true h0
      go_enter Try.func49, Try.ntmps49
      go_wp2_with (go_at_call 28; go_must ((with_reducible refine (HT.out).mono ?_); rintro e w3 ⟨v3, rfl, hs⟩; obtain ⟨A3, c3, rfl, _, _⟩ := hs.reads; rw [HX.out] at hs ⊢; have HS3 := Aside0.mk (hs.box #[.int .i64 x.f, .int .i64 x.pc, .slice A3 lx c3, .int .i64 x.base] 61); clear hs))
      go_ret2
      exact ⟨rfl, HS3.out.drop.drop⟩
    · have d0 : decide (i < 0) = false := decide_eq_false h0
      have d1 : decide ((lx : Int) ≤ i) = true := decide_eq_true (by omega)
      go_enter Try.func49, Try.ntmps49
      go_wp2_with (go_at_call 28; go_must ((with_reducible refine (HT.out).mono ?_); rintro e w3 ⟨v3, rfl, hs⟩; obtain ⟨A3, c3, rfl, _, _⟩ := hs.reads; rw [HX.out] at hs ⊢; have HS3 := Aside0.mk (hs.box #[.int .i64 x.f, .int .i64 x.pc, .slice A3 lx c3, .int .i64 x.base] 61); clear hs))
      go_ret2
      exact ⟨rfl, HS3.out.drop.drop⟩
theorem xLocalOk {w0 w : World} {L : List As} {g : Nat} {s : FS} (hS : SB w0 w (XO g s :: L)) (hF : s.fr.length ≤ 64) {fr0 : List Fm} {x : Fm} (hx : s.fr = fr0 ++ [x]) (hl : x.loc.length ≤ 1000000) (k : Nat) (hk : k < x.loc.length) :
    Calls Try.prog 49 #[.pointer (some ⟨g, 0, none⟩), .int .i64 (k : Int)] w fun e w' => e = .returned (.tuple #[.int .u64 x.loc[k], .bool true]) ∧ SB w0 w' (XO g s :: L) := by
  have HT := Aside0.mk (xTopOk hS hF hx hl)
  obtain ⟨lx, hlx⟩ : ∃ l, x.loc.length = l := ⟨_, rfl⟩
  have HX := Aside0.mk hlx
  obtain ⟨y, hy⟩ : ∃ y, x.loc[k] = y := ⟨_, rfl⟩
  have HY := Aside0.mk (And.intro hk hy)
  rw [hy]
  rw [hlx] at hk
  have d0 : decide ((k : Int) < 0) = false := decide_eq_false (by omega)
  have d1 : decide ((lx : Int) ≤ (k : Int)) = false := decide_eq_false (by omega)
  have d1' : decide (lx ≤ k) = false := decide_eq_false (by omega)
  have hk2 : (k : Int) < (lx : Int) := by omega
  clear hS hF hx hlx hl hy
  go_enter Try.func49, Try.ntmps49
  go_wp2_with (go_at_call 28; go_must ((with_reducible refine (HT.out).mono ?_); rintro e w3 ⟨v3, rfl, hs⟩; obtain ⟨g3, c3, rfl, hq, _, _⟩ := hs.rowAt k HY.out.1; rw [HY.out.2] at hq; rw [HX.out] at hs ⊢; have hq2 := pw_cell_below (below_alloc (Below.refl _ w3) (.cells #[.int .i64 x.f, .int .i64 x.pc, .slice (some ⟨g3, 0, none⟩) lx c3, .int .i64 x.base] 61)) hq; have HS3 := Aside0.mk (hs.box #[.int .i64 x.f, .int .i64 x.pc, .slice (some ⟨g3, 0, none⟩) lx c3, .int .i64 x.base] 61); clear hs))
  go_ret2
  exact ⟨rfl, HS3.out.drop.drop⟩
theorem xSetNo {w0 w : World} {L : List As} {g : Nat} {s : FS} (hS : SB w0 w (XO g s :: L)) (hF : s.fr.length ≤ 64) (hlc : ∀ f ∈ s.fr, f.loc.length ≤ 1000000) (i u : Int) (hi : ¬ hasL s i) :
    Calls Try.prog 50 #[.pointer (some ⟨g, 0, none⟩), .int .i64 i, .int .u64 u] w fun e w' => e = .returned (.bool false) ∧ SB w0 w' (XO g s :: L) := by
  have HT := Aside0.mk (xLocalNo hS hF hlc i hi)
  clear hS hF hlc hi
  go_enter Try.func50, Try.ntmps50
  go_wp2_with (go_at_call 49; go_must ((with_reducible refine (HT.out).mono ?_); rintro e w3 ⟨rfl, hs⟩; have HS3 := Aside0.mk hs; clear hs))
  go_ret
  exact ⟨rfl, HS3.out⟩
theorem xSetOk {w0 w : World} {L : List As} {g : Nat} {s : FS} (hS : SB w0 w (XO g s :: L)) (hF : s.fr.length ≤ 64) {fr0 : List Fm} {x : Fm} (hx : s.fr = fr0 ++ [x]) (hl : x.loc.length ≤ 1000000) (k : Nat) (hk : k < x.loc.length) (u : Int) :
    Calls Try.prog 50 #[.pointer (some ⟨g, 0, none⟩), .int .i64 (k : Int), .int .u64 u] w fun e w' => e = .returned (.bool true) ∧ SB w0 w' (XO g { s with fr := fr0 ++ [{ x with loc := x.loc.set k u }] } :: L) := by
  have HT := Aside0.mk (xLocalOk hS hF hx hl k hk)
  obtain ⟨n, hn⟩ : ∃ n, fr0.length = n := ⟨_, rfl⟩
  have hn64 : n + 1 ≤ 64 := by rw [hx] at hF; simp at hF; omega
  have hwn : IntKind.i64.wrap (n : Int) = (n : Int) := by rw [IntKind.wrap_i64]; omega
  have HL := Aside0.mk (fun (W : World) (h : SB w0 W (XO g s :: L)) => (by have := xo_loc h hx k hk; rw [hn] at this; exact this))
  obtain ⟨lx, hlx⟩ : ∃ l, x.loc.length = l := ⟨_, rfl⟩
  rw [hlx] at HL hk
  have hk2 : (k : Int) < (lx : Int) := by omega
  clear hS hF hx hlx hl hn
  go_enter Try.func50, Try.ntmps50
  go_wp2_with (go_at_call 49; go_must ((with_reducible refine (HT.out).mono ?_); rintro e w3 ⟨rfl, hs⟩; have HS3 := Aside0.mk hs.drew; clear hs))
  obtain ⟨gf, cf, gl, c, s1, hcf, t2, u0, u1, hset⟩ := HL.out _ HS3.out
  have HU := Aside0.mk (And.intro u0 (And.intro u1 (hset u)))
  clear u0 u1 hset
  refine rg_startL (n := 17) (S := fun w' => w'.cell? ⟨g, 1, none⟩ = some (.slice (some ⟨gf, 0, none⟩) (n + 1) cf) ∧ w'.cell? ⟨gf, n * 4 + 2, none⟩ = some (.slice (some ⟨gl, 0, none⟩) lx c)) (bm 17 0) (by kernel_rfl) rfl (by kernel_rfl) (⟨s1, t2⟩) (fun wd hwd hHeld => ?_)
  refine rg_take (i := 0) (N := some 16) (v := ?_) (a' := ?_) (bm 17 1) rfl rfl (by kernel_rfl) (fun _ _ _ h => h) hHeld (Or.inl ⟨by rfl, ?_⟩) ?_ ?_
  rotate_left
  · intro w' hw'
    have s1 := hw'.1
    have t2 := hw'.2
    have hc1 : (n : Int) < (n : Int) + 1 := by omega
    have hc2 : (0 : Int) ≤ (n : Int) := by omega
    go_simp
    with_reducible rfl
  rotate_left
  · simp only [Act.put, List.setIfInBounds_toArray, List.set_cons_zero, List.set_cons_succ]
    rfl
  refine rg_take (i := 1) (N := some 17) (v := ?_) (a' := ?_) (bm 17 3) rfl rfl (by kernel_rfl) (fun _ _ _ h => h) hHeld (Or.inl ⟨by rfl, ?_⟩) ?_ ?_
  rotate_left
  · intro w' hw'
    have s1 := hw'.1
    have t2 := hw'.2
    have hc1 : (n : Int) < (n : Int) + 1 := by omega
    have hc2 : (0 : Int) ≤ (n : Int) := by omega
    go_simp
    with_reducible rfl
  rotate_left
  · simp only [Act.put, List.setIfInBounds_toArray, List.set_cons_zero, List.set_cons_succ]
    rfl
  refine rg_take (i := 2) (N := some 18) (v := ?_) (a' := ?_) (bm 17 7) rfl rfl (by kernel_rfl) (fun _ _ _ h => h) hHeld (Or.inl ⟨by rfl, ?_⟩) ?_ ?_
  rotate_left
  · intro w' hw'
    have s1 := hw'.1
    have t2 := hw'.2
    have hc1 : (n : Int) < (n : Int) + 1 := by omega
    have hc2 : (0 : Int) ≤ (n : Int) := by omega
    go_simp
    with_reducible rfl
  rotate_left
  · simp only [Act.put, List.setIfInBounds_toArray, List.set_cons_zero, List.set_cons_succ]
    rfl
  refine rg_take (i := 3) (N := some 19) (v := ?_) (a' := ?_) (bm 17 15) rfl rfl (by kernel_rfl) (fun _ _ _ h => h) hHeld (Or.inl ⟨by rfl, ?_⟩) ?_ ?_
  rotate_left
  · intro w' hw'
    have s1 := hw'.1
    have t2 := hw'.2
    have hc1 : (n : Int) < (n : Int) + 1 := by omega
    have hc2 : (0 : Int) ≤ (n : Int) := by omega
    go_simp
    with_reducible rfl
  rotate_left
  · simp only [Act.put, List.setIfInBounds_toArray, List.set_cons_zero, List.set_cons_succ]
    rfl
  refine rg_take (i := 4) (N := some 20) (v := ?_) (a' := ?_) (bm 17 31) rfl rfl (by kernel_rfl) (fun _ _ _ h => h) hHeld (Or.inl ⟨by rfl, ?_⟩) ?_ ?_
  rotate_left
  · intro w' hw'
    have s1 := hw'.1
    have t2 := hw'.2
    have hc1 : (n : Int) < (n : Int) + 1 := by omega
    have hc2 : (0 : Int) ≤ (n : Int) := by omega
    go_simp
    with_reducible rfl
  rotate_left
  · simp only [Act.put, List.setIfInBounds_toArray, List.set_cons_zero, List.set_cons_succ]
    rfl
  refine rg_take (i := 5) (N := some 21) (v := ?_) (a' := ?_) (bm 17 63) rfl rfl (by kernel_rfl) (fun _ _ _ h => h) hHeld (Or.inl ⟨by rfl, ?_⟩) ?_ ?_
  rotate_left
  · intro w' hw'
    have s1 := hw'.1
    have t2 := hw'.2
    have hc1 : (n : Int) < (n : Int) + 1 := by omega
    have hc2 : (0 : Int) ≤ (n : Int) := by omega
    go_simp
    with_reducible rfl
  rotate_left
  · simp only [Act.put, List.setIfInBounds_toArray, List.set_cons_zero, List.set_cons_succ]
    rfl
  refine rg_take (i := 6) (N := some 22) (v := ?_) (a' := ?_) (bm 17 127) rfl rfl (by kernel_rfl) (fun _ _ _ h => h) hHeld (Or.inl ⟨by rfl, ?_⟩) ?_ ?_
  rotate_left
  · intro w' hw'
    have s1 := hw'.1
    have t2 := hw'.2
    have hc1 : (n : Int) < (n : Int) + 1 := by omega
    have hc2 : (0 : Int) ≤ (n : Int) := by omega
    go_simp
    with_reducible rfl
  rotate_left
  · simp only [Act.put, List.setIfInBounds_toArray, List.set_cons_zero, List.set_cons_succ]
    rfl
  refine rg_take (i := 7) (N := some 23) (v := ?_) (a' := ?_) (bm 17 255) rfl rfl (by kernel_rfl) (fun _ _ _ h => h) hHeld (Or.inl ⟨by rfl, ?_⟩) ?_ ?_
  rotate_left
  · intro w' hw'
    have s1 := hw'.1
    have t2 := hw'.2
    have hc1 : (n : Int) < (n : Int) + 1 := by omega
    have hc2 : (0 : Int) ≤ (n : Int) := by omega
    go_simp
    with_reducible rfl
  rotate_left
  · simp only [Act.put, List.setIfInBounds_toArray, List.set_cons_zero, List.set_cons_succ]
    rfl
  refine rg_take (i := 8) (N := some 24) (v := ?_) (a' := ?_) (bm 17 511) rfl rfl (by kernel_rfl) (fun _ _ _ h => h) hHeld (Or.inl ⟨by rfl, ?_⟩) ?_ ?_
  rotate_left
  · intro w' hw'
    have s1 := hw'.1
    have t2 := hw'.2
    have hc1 : (n : Int) < (n : Int) + 1 := by omega
    have hc2 : (0 : Int) ≤ (n : Int) := by omega
    go_simp
    with_reducible rfl
  rotate_left
  · simp only [Act.put, List.setIfInBounds_toArray, List.set_cons_zero, List.set_cons_succ]
    rfl
  refine rg_take (i := 9) (N := some 25) (v := ?_) (a' := ?_) (bm 17 1023) rfl rfl (by kernel_rfl) (fun _ _ _ h => h) hHeld (Or.inl ⟨by rfl, ?_⟩) ?_ ?_
  rotate_left
  · intro w' hw'
    have s1 := hw'.1
    have t2 := hw'.2
    have hc1 : (n : Int) < (n : Int) + 1 := by omega
    have hc2 : (0 : Int) ≤ (n : Int) := by omega
    go_simp
    with_reducible rfl
  rotate_left
  · simp only [Act.put, List.setIfInBounds_toArray, List.set_cons_zero, List.set_cons_succ]
    rfl
  refine rg_take (i := 10) (N := some 26) (v := ?_) (a' := ?_) (bm 17 2047) rfl rfl (by kernel_rfl) (fun _ _ _ h => h) hHeld (Or.inl ⟨by rfl, ?_⟩) ?_ ?_
  rotate_left
  · intro w' hw'
    have s1 := hw'.1
    have t2 := hw'.2
    have hc1 : (n : Int) < (n : Int) + 1 := by omega
    have hc2 : (0 : Int) ≤ (n : Int) := by omega
    go_simp
    with_reducible rfl
  rotate_left
  · simp only [Act.put, List.setIfInBounds_toArray, List.set_cons_zero, List.set_cons_succ]
    rfl
  refine rg_take (i := 11) (N := some 27) (v := ?_) (a' := ?_) (bm 17 4095) rfl rfl (by kernel_rfl) (fun _ _ _ h => h) hHeld (Or.inl ⟨by rfl, ?_⟩) ?_ ?_
  rotate_left
  · intro w' hw'
    have s1 := hw'.1
    have t2 := hw'.2
    have hc1 : (n : Int) < (n : Int) + 1 := by omega
    have hc2 : (0 : Int) ≤ (n : Int) := by omega
    go_simp
    with_reducible rfl
  rotate_left
  · simp only [Act.put, List.setIfInBounds_toArray, List.set_cons_zero, List.set_cons_succ]
    rfl
  refine rg_take (i := 12) (N := some 28) (v := ?_) (a' := ?_) (bm 17 8191) rfl rfl (by kernel_rfl) (fun _ _ _ h => h) hHeld (Or.inl ⟨by rfl, ?_⟩) ?_ ?_
  rotate_left
  · intro w' hw'
    have s1 := hw'.1
    have t2 := hw'.2
    have hc1 : (n : Int) < (n : Int) + 1 := by omega
    have hc2 : (0 : Int) ≤ (n : Int) := by omega
    go_simp
    with_reducible rfl
  rotate_left
  · simp only [Act.put, List.setIfInBounds_toArray, List.set_cons_zero, List.set_cons_succ]
    rfl
  refine rg_take (i := 13) (N := some 29) (v := ?_) (a' := ?_) (bm 17 16383) rfl rfl (by kernel_rfl) (fun _ _ _ h => h) hHeld (Or.inl ⟨by rfl, ?_⟩) ?_ ?_
  rotate_left
  · intro w' hw'
    have s1 := hw'.1
    have t2 := hw'.2
    have hc1 : (n : Int) < (n : Int) + 1 := by omega
    have hc2 : (0 : Int) ≤ (n : Int) := by omega
    go_simp
    with_reducible rfl
  rotate_left
  · simp only [Act.put, List.setIfInBounds_toArray, List.set_cons_zero, List.set_cons_succ]
    rfl
  refine rg_take (i := 14) (N := some 30) (v := ?_) (a' := ?_) (bm 17 32767) rfl rfl (by kernel_rfl) (fun _ _ _ h => h) hHeld (Or.inl ⟨by rfl, ?_⟩) ?_ ?_
  rotate_left
  · intro w' hw'
    have s1 := hw'.1
    have t2 := hw'.2
    have hc1 : (n : Int) < (n : Int) + 1 := by omega
    have hc2 : (0 : Int) ≤ (n : Int) := by omega
    go_simp
    with_reducible rfl
  rotate_left
  · simp only [Act.put, List.setIfInBounds_toArray, List.set_cons_zero, List.set_cons_succ]
    rfl
  refine rg_take (i := 15) (N := some 31) (v := ?_) (a' := ?_) (bm 17 65535) rfl rfl (by kernel_rfl) (fun _ _ _ h => h) hHeld (Or.inl ⟨by rfl, ?_⟩) ?_ ?_
  rotate_left
  · intro w' hw'
    have s1 := hw'.1
    have t2 := hw'.2
    have hc1 : (n : Int) < (n : Int) + 1 := by omega
    have hc2 : (0 : Int) ≤ (n : Int) := by omega
    go_simp
    with_reducible rfl
  rotate_left
  · simp only [Act.put, List.setIfInBounds_toArray, List.set_cons_zero, List.set_cons_succ]
    rfl
  refine rg_ready [16] (by kernel_rfl) (by simp) ?_
  refine rg_one (i := 16) (N := none) (bm 17 131071) rfl rfl (by kernel_rfl) (fun K hK => ?_) rg_nil
  have u0 := hwd.out ▸ HU.out.1
  have u1 := hwd.out ▸ HU.out.2.1
  have HN := Aside0.mk (hwd.out ▸ HU.out.2.2)
  have hnew := HN.out.2
  go_simp
  refine hK.out undef _ hnew ?_
  clear hK K
  refine rg_norm (a' := ?_) ?_ ?_
  rotate_left
  · simp only [Act.put, List.setIfInBounds_toArray, List.set_cons_zero, List.set_cons_succ]
    rfl
  clear hHeld
  have hHeld := hnew
  clear hnew
  refine rg_done (by kernel_rfl) ?_
  go_wp2
  go_ret
  exact ⟨rfl, HN.out.1⟩
end Go.Proofs.Ytbbgkelcdooabaa.G
