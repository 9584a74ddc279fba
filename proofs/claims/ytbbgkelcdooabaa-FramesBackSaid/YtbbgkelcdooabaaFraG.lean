/- Package frames' stacks: Top, Local, SetLocal, Go. -/
import Derived.Deep.DeepMust
import Derived.Test.YtbbgkelcdooabaaFraF
namespace Go.Proofs.Ytbbgkelcdooabaa.G
open Go.RowKit Go.Proofs.YtbbgkelcdooabaaW.PrintWords Go.Proofs.YtbbgkelcdooabaaW.PrintLast Go.Proofs.YtbbgkelcdooabaaW.PrintMore
set_option linter.unusedVariables false
set_option linter.unusedSimpArgs false
theorem SB.boxE {w0 w : World} {L : List As} (h : SB w0 w L) (cs : Array Value) (t : TypeId) : ∃ p, p = w.heap.size ∧ SB w0 (w.alloc (.cells cs t)) (Box p cs t :: L) := ⟨_, rfl, h.box cs t⟩
/-- A frame of its own. -/
theorem frOwn {w0 w : World} {L : List As} (hS : SB w0 w L) (f pc b : Int) (A : Option Addr) (c : Nat) (l : List Int) (hC : Kd.C (Kd.int .u64) w A l.length l) (hc : l.length ≤ c) (hl : l.length ≤ 1000000) :
    Calls Try.prog 40 #[.agg #[.int .i64 f, .int .i64 pc, .slice A l.length c, .int .i64 b]] w fun e w' => ∃ v, e = .returned (.agg #[.int .i64 f, .int .i64 pc, v, .int .i64 b]) ∧ SB w0 w' (Row (Kd.int .u64) 35 v l :: L) := by
  have h1 := (hS.box #[.int .i64 f, .int .i64 pc, .slice A l.length c, .int .i64 b] 58).box #[.int .i64 0, .int .i64 0, .slice none 0 0, .int .i64 0] 58
  rw [World.size_alloc] at h1
  have HB := Aside0.mk h1
  have HC := Aside0.mk (Kd.C_below hC (below_alloc (below_alloc (Below.refl _ _) (.cells #[.int .i64 f, .int .i64 pc, .slice A l.length c, .int .i64 b] 58)) (.cells #[.int .i64 0, .int .i64 0, .slice none 0 0, .int .i64 0] 58)))
  clear h1 hS hC
  go_enter Try.func40, Try.ntmps40
  go_wp2_with (go_at_call 36; go_must ((with_reducible refine (cloneU HB.out A c l HC.out hc hl).mono ?_); rintro e w1 ⟨v1, rfl, hs⟩; obtain ⟨A1, c1, rfl, _, _⟩ := hs.reads; have hb0 := (hs.pick3 [2]).blk; have hb1 := (hs.pick3 [1]).blk; have s0 := blk_cell hb0 0; have s1 := blk_cell hb0 1; have s2 := blk_cell hb0 2; have s3 := blk_cell hb0 3; have f0 := blk_frozen hb0 2; have u0 := blk_cell hb1 0; have u1 := blk_cell hb1 1; have u2 := blk_cell hb1 2; have u3 := blk_cell hb1 3; have g0 := blk_frozen hb1 0; have g1 := blk_frozen hb1 1; have g2 := blk_frozen hb1 2; have g3 := blk_frozen hb1 3; have HS1 := Aside0.mk hs; clear hs hb0 hb1))
  refine bodyPost_ret (v := .agg #[.int .i64 f, .int .i64 pc, .slice A1 l.length c1, .int .i64 b]) (by simp [results, Try.results40, go_sem, *]) rfl ?_
  refine ⟨_, rfl, ?_⟩
  have h2 := (HS1.out.pick3 [2, 0, 1]).set1 2 (.slice A1 l.length c1)
  have h3 := (h2.pick3 [2, 1, 0]).set4 0 (.int .i64 f) (.int .i64 pc) (.slice A1 l.length c1) (.int .i64 b)
  exact h3.pick3 [1]
/-- The top frame's cells. -/
theorem frTopCells {w0 w : World} {L : List As} {p : Nat} {s : FS} (hS : SB w0 w (FO p s :: L)) {fr0 : List Fm} {x : Fm} (hx : s.fr = fr0 ++ [x]) :
    fr0.length < 64 ∧ w.cell? ⟨p, 257, none⟩ = some (.int .i64 ((fr0.length + 1 : Nat) : Int)) ∧ ∃ A c, w.cell? ⟨p, 1 + fr0.length * 4, none⟩ = some (.int .i64 x.f) ∧ w.cell? ⟨p, 1 + fr0.length * 4 + 1, none⟩ = some (.int .i64 x.pc) ∧
      w.cell? ⟨p, 1 + fr0.length * 4 + 2, none⟩ = some (.slice A x.loc.length c) ∧ w.cell? ⟨p, 1 + fr0.length * 4 + 3, none⟩ = some (.int .i64 x.base) ∧ Kd.C (Kd.int .u64) w A x.loc.length x.loc ∧ x.loc.length ≤ c := by
  have hn : s.fr.length = fr0.length + 1 := by rw [hx]; simp
  obtain ⟨h64, h257⟩ := fr_top hS _ hn
  refine ⟨h64, h257, ?_⟩
  obtain ⟨v, z, hz, hk, h1⟩ := hS.open_
  have hb := h1.blk
  obtain ⟨z0, y, rfl⟩ : ∃ z0 y, z = z0 ++ [y] := by
    rcases List.eq_nil_or_concat z with h | ⟨z0, y, h⟩
    · rw [h, hx] at hz; simp at hz
    · exact ⟨z0, y, by rw [h, List.concat_eq_append]⟩
  rw [List.map_append, hx] at hz
  obtain ⟨hz1, hz2⟩ := List.append_inj' hz rfl
  have hl0 : z0.length = fr0.length := by rw [← hz1]; simp
  have hy : y.1 = x := by simpa using hz2
  rw [rowsOf_push] at h1
  have h2 := SB.sepPop (h1.pick3 [2, 0, 1])
  rw [hy] at h2
  obtain ⟨A, c, e, hc, hC⟩ := h2.reads
  have hg := fun j hj => (blk_cell hb (1 + fr0.length * 4 + j)).trans (fsC_fr v (z0 ++ [y]) s.room fr0.length j h64 hj (by simp; omega))
  have hget : (z0 ++ [y])[fr0.length]'(by simp; omega) = y := by
    rw [List.getElem_append_right (by omega)]
    simp
  simp only [hget] at hg
  have e4 : fm4 y = [.int .i64 x.f, .int .i64 x.pc, .slice A x.loc.length c, .int .i64 x.base] := by unfold fm4; rw [hy, e]
  simp only [e4] at hg
  exact ⟨A, c, hg 0 (by omega), hg 1 (by omega), hg 2 (by omega), hg 3 (by omega), hC, hc⟩
theorem frTopNo {w0 w : World} {L : List As} {p : Nat} {s : FS} (hS : SB w0 w (FO p s :: L)) (hf : s.fr = []) :
    Calls Try.prog 27 #[.pointer (some ⟨p, 0, none⟩)] w fun e w' => e = .returned (.tuple #[.agg #[.int .i64 0, .int .i64 0, .slice none 0 0, .int .i64 0], .bool false]) ∧ SB w0 w' (FO p s :: L) := by
  obtain ⟨v, z, hz, hk, h1⟩ := hS.open_
  have hb := h1.blk
  have hzl : z.length = 0 := by have := congrArg List.length hz; rw [hf] at this; simpa using this
  have hn : w.cell? ⟨p, 257, none⟩ = some (.int .i64 0) := by rw [fsC_b _ _ _ hb 257 (by omega)]; unfold cellAt; rw [hzl]; rfl
  have h2 := hS.box #[.int .i64 0, .int .i64 0, .slice none 0 0, .int .i64 0] 58
  have hc := pw_cell_below (below_alloc (Below.refl _ w) (.cells #[.int .i64 0, .int .i64 0, .slice none 0 0, .int .i64 0] 58)) hn
  have ht := Aside0.mk (frTop0 p _ hc)
  have HS := Aside0.mk h2
  clear hS h1 hb hzl h2 hc
  go_enter Try.func27, Try.ntmps27
  go_wp2_with (go_at_call 34; go_must ((with_reducible refine (ht.out).mono ?_)); rintro e w' ⟨rfl, ⟨nd, rfl⟩⟩)
  refine bodyPost_ret (v := .tuple #[.agg #[.int .i64 0, .int .i64 0, .slice none 0 0, .int .i64 0], .bool false]) (by simp [results, Try.results27, go_sem, *]) rfl ?_
  refine ⟨rfl, ?_⟩
  have h3 := ((HS.out.drewN nd).set4 0 (.int .i64 0) (.int .i64 0) (.slice none 0 0) (.int .i64 0))
  exact h3.drop
theorem frTopOk {w0 w : World} {L : List As} {p : Nat} {s : FS} (hS : SB w0 w (FO p s :: L)) {fr0 : List Fm} {x : Fm} (hx : s.fr = fr0 ++ [x]) (hl : x.loc.length ≤ 1000000) :
    Calls Try.prog 27 #[.pointer (some ⟨p, 0, none⟩)] w fun e w' => ∃ v, e = .returned (.tuple #[.agg #[.int .i64 x.f, .int .i64 x.pc, v, .int .i64 x.base], .bool true]) ∧ SB w0 w' (Row (Kd.int .u64) 35 v x.loc :: FO p s :: L) := by
  have h2 := hS.box #[.int .i64 0, .int .i64 0, .slice none 0 0, .int .i64 0] 58
  obtain ⟨h64, hn, A, c, s0, s1, s2, s3, hC, hc⟩ := frTopCells h2.swap hx
  have ht := Aside0.mk (frTop p _ _ h64 hn)
  have HS := Aside0.mk h2
  have HC := Aside0.mk hC
  clear hS h2 hC hx
  go_enter Try.func27, Try.ntmps27
  go_wp2_with (first
    | (go_at_call 34; go_must ((with_reducible refine (ht.out).mono ?_)); rintro e w' ⟨rfl, ⟨nd, rfl⟩⟩)
    | (go_at_call 40; go_must ((with_reducible refine (frOwn (HS.out.drewN nd) x.f x.pc x.base A c x.loc (Kd.C_below HC.out (pw_below_drewN (Below.refl _ _) _)) hc hl).mono ?_); rintro e w1 ⟨v1, rfl, hs⟩; obtain ⟨A1, c1, rfl, _, _⟩ := hs.reads; have hb1 := (hs.pick3 [1]).blk; have u0 := blk_cell hb1 0; have u1 := blk_cell hb1 1; have u2 := blk_cell hb1 2; have u3 := blk_cell hb1 3; have g0 := blk_frozen hb1 0; have g1 := blk_frozen hb1 1; have g2 := blk_frozen hb1 2; have g3 := blk_frozen hb1 3; have HS1 := Aside0.mk hs; clear hs hb1)))
  refine bodyPost_ret (v := .tuple #[.agg #[.int .i64 x.f, .int .i64 x.pc, .slice A1 x.loc.length c1, .int .i64 x.base], .bool true]) (by simp [results, Try.results27, go_sem, *]) rfl ?_
  refine ⟨_, rfl, ?_⟩
  have h3 := (HS1.out.pick3 [1, 0, 2]).set4 0 (.int .i64 x.f) (.int .i64 x.pc) (.slice A1 x.loc.length c1) (.int .i64 x.base)
  exact h3.drop
theorem SB.rowAt {w0 w : World} {L : List As} {k : IntKind} {e : Nat} {v : Value} {xs : List Int} (h : SB w0 w (Row (Kd.int k) e v xs :: L)) (i : Nat) (hi : i < xs.length) :
    ∃ g c, v = .slice (some ⟨g, 0, none⟩) xs.length c ∧ w.cell? ⟨g, i, none⟩ = some (.int k xs[i]) ∧ w.frozen? ⟨g, i, none⟩ = false ∧
      ∀ x, SB w0 (w.setCell ⟨g, i, none⟩ (.int k x)) (Row (Kd.int k) e (.slice (some ⟨g, 0, none⟩) xs.length c) (xs.set i x) :: L) := by
  obtain ⟨F, hF, hge, K⟩ := h.frame
  have ho := Kd.own_of_R hF.1
  rcases ho.2 with ⟨rfl, h0⟩ | ⟨g, cap, cur, rfl, hbg, hg, hnc, hcm, hcs, htake⟩
  · omega
  obtain ⟨A', c', e2, _, hC⟩ := Kd.R_reads hF.1
  injection e2 with q1 q2 q3
  obtain ⟨ad, e1, hcell⟩ := row_cell hC hi
  rw [← q1] at e1
  injection e1 with e1
  subst e1
  refine ⟨g, cap, rfl, ?_, blk_frozen hg i, fun x => ?_⟩
  · have : (⟨g, 0, none⟩ : Addr).add i = ⟨g, i, none⟩ := by unfold Addr.add; split <;> simp_all
    rw [this] at hcell
    exact hcell
  · have h2 := Kd.R_put hF.1 (i : Int) x
    simp only [Int.toNat_natCast] at h2
    exact K _ (Row (Kd.int k) e _ _) F ⟨h2.1, fun b hb => by have := hF.2 b hb; simpa [World.setCell] using this⟩ ((Fr.refl w F).setCell (p := ⟨g, i, none⟩) (.inl (hF.1.1 g rfl)) _) (fun b hb => .inl hb)
/-- The top frame's locals, to be set. -/
theorem frTopLoc {w0 w : World} {L : List As} {p : Nat} {s : FS} (hS : SB w0 w (FO p s :: L)) {fr0 : List Fm} {x : Fm} (hx : s.fr = fr0 ++ [x]) (i : Nat) (hi : i < x.loc.length) :
    fr0.length < 64 ∧ w.cell? ⟨p, 257, none⟩ = some (.int .i64 ((fr0.length + 1 : Nat) : Int)) ∧ ∃ g c, w.cell? ⟨p, 1 + fr0.length * 4 + 2, none⟩ = some (.slice (some ⟨g, 0, none⟩) x.loc.length c) ∧ w.cell? ⟨g, i, none⟩ = some (.int .u64 x.loc[i]) ∧ w.frozen? ⟨g, i, none⟩ = false ∧
      ∀ u, SB w0 (w.setCell ⟨g, i, none⟩ (.int .u64 u)) (FO p { s with fr := fr0 ++ [{ x with loc := x.loc.set i u }] } :: L) := by
  obtain ⟨h64, h257, A, c, _, _, q2, _⟩ := frTopCells hS hx
  obtain ⟨v, z, hz, hk, h1⟩ := hS.open_
  have hb := h1.blk
  obtain ⟨z0, y, rfl⟩ : ∃ z0 y, z = z0 ++ [y] := by
    rcases List.eq_nil_or_concat z with h | ⟨z0, y, h⟩
    · rw [h, hx] at hz; simp at hz
    · exact ⟨z0, y, by rw [h, List.concat_eq_append]⟩
  rw [List.map_append, hx] at hz
  obtain ⟨hz1, hz2⟩ := List.append_inj' hz rfl
  have hl0 : z0.length = fr0.length := by rw [← hz1]; simp
  have hy : y.1 = x := by simpa using hz2
  obtain ⟨y1, y2⟩ := y
  obtain rfl : y1 = x := hy
  rw [rowsOf_push] at h1
  dsimp only at h1
  have h2 := SB.sepPop (h1.pick3 [2, 0, 1])
  obtain ⟨g, c', rfl, hcell, hfro, hset⟩ := h2.rowAt i hi
  have hlt : fr0.length < (z0 ++ [(y1, Value.slice (some ⟨g, 0, none⟩) y1.loc.length c')]).length := by rw [List.length_append, hl0]; exact Nat.lt_succ_self _
  have hg := fun j hj => (blk_cell hb (1 + fr0.length * 4 + j)).trans (fsC_fr v _ s.room fr0.length j h64 hj hlt)
  have hget : (z0 ++ [(y1, Value.slice (some ⟨g, 0, none⟩) y1.loc.length c')])[fr0.length]'hlt = (y1, .slice (some ⟨g, 0, none⟩) y1.loc.length c') := by
    rw [List.getElem_append_right (by omega)]
    simp
  simp only [hget] at hg
  have hg := hg 2 (by omega)
  refine ⟨h64, h257, g, c', hg, hcell, hfro, fun u => ?_⟩
  have h3 := hset u
  have h4 := SB.sepPush h3
  have h5 : SB w0 (w.setCell ⟨g, i, none⟩ (.int .u64 u)) (Box p (fsC v (z0 ++ [(y1, .slice (some ⟨g, 0, none⟩) y1.loc.length c')]) s.room) 72 :: Row (Kd.int .u64) 35 v s.v :: Sep (rowsOf z0 ++ [Row (Kd.int .u64) 35 (.slice (some ⟨g, 0, none⟩) y1.loc.length c') (y1.loc.set i u)]) :: L) := h4.pick3 [1, 2, 0]
  have e2 : rowsOf (z0 ++ [({ y1 with loc := y1.loc.set i u }, Value.slice (some ⟨g, 0, none⟩) y1.loc.length c')]) = rowsOf z0 ++ [Row (Kd.int .u64) 35 (.slice (some ⟨g, 0, none⟩) y1.loc.length c') (y1.loc.set i u)] := rowsOf_push _ _
  rw [← e2] at h5
  have e3 : fsC v (z0 ++ [(y1, Value.slice (some ⟨g, 0, none⟩) y1.loc.length c')]) s.room = fsC v (z0 ++ [({ y1 with loc := y1.loc.set i u }, Value.slice (some ⟨g, 0, none⟩) y1.loc.length c')]) s.room := by
    refine fsC_ext (by simp [fsC]) (fun j hj => ?_)
    rw [fsC_at _ _ _ _ hj]
    unfold cellAt
    by_cases hk : (j - 1) / 4 < z0.length
    · rw [List.getElem?_append_left hk, List.getElem?_append_left hk]; simp
    · by_cases hk2 : (j - 1) / 4 = z0.length
      · rw [hk2, List.getElem?_append_right (Nat.le_refl _), List.getElem?_append_right (Nat.le_refl _), Nat.sub_self]; simp; rfl
      · rw [List.getElem?_eq_none (by simp; omega), List.getElem?_eq_none (by simp; omega)]; simp
  rw [e3] at h5
  refine SB.close_ (s := { s with fr := fr0 ++ [{ y1 with loc := y1.loc.set i u }] }) (by rw [List.map_append, hz1]; rfl) ⟨hk.room0, hk.room, by have := hk.len; rw [hx] at this; simpa using this, fun f hf => ?_⟩ h5
  rcases List.mem_append.1 hf with hf | hf
  · exact hk.base f (by rw [hx]; exact List.mem_append_left _ hf)
  · rw [List.mem_singleton.1 hf]
    exact hk.base y1 (by rw [hx]; simp)
end Go.Proofs.Ytbbgkelcdooabaa.G
