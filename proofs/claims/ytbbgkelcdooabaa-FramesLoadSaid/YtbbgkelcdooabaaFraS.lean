/- The document's stacks as objects. -/
import Derived.Deep.DeepMust
import Derived.Test.YtbbgkelcdooabaaFraR
namespace Go.Proofs.Ytbbgkelcdooabaa.G
open Go.RowKit Go.Proofs.YtbbgkelcdooabaaW.PrintWords Go.Proofs.YtbbgkelcdooabaaW.PrintLast Go.Proofs.YtbbgkelcdooabaaW.PrintMore
attribute [local go_sem] max2_int min2_int max_two min_two max_three min_three max_four min_four   -- for this text's walks alone
set_option linter.unusedVariables false
set_option linter.unusedSimpArgs false
theorem addr0 (g k : Nat) : (⟨g, 0, none⟩ : Addr).add k = ⟨g, k, none⟩ := by unfold Addr.add; split <;> simp_all
theorem SB.rawAt {w0 w : World} {L : List As} {e sz n c : Nat} {A : Option Addr} {xs : List (List Value)} (h : SB w0 w (Row (Kd.raw sz) e (.slice A n c) xs :: L)) (i : Nat) (hi : i < xs.length) :
    ∃ g, A = some ⟨g, 0, none⟩ ∧ (∀ j (hj : j < sz), w.cell? ⟨g, i * sz + j, none⟩ = xs[i][j]?) ∧ (∀ j, w.frozen? ⟨g, j, none⟩ = false) ∧
      ∀ j u, j < sz → u.oneCell' = true → SB w0 (w.setCell ⟨g, i * sz + j, none⟩ u) (Row (Kd.raw sz) e (.slice (some ⟨g, 0, none⟩) n c) (xs.set i (xs[i].set j u)) :: L) := by
  obtain ⟨F, hF, hge, K⟩ := h.frame
  obtain ⟨hn, hnc, hC⟩ := Kd.R_reads' hF.1
  have hF1 := hF.1
  obtain ⟨hok, inner, ho, hr⟩ := hF1
  rcases ho.2 with ⟨hv, h0⟩ | ⟨g, cap, cur, hv, hb, hh, _⟩
  · injection hv with h1 h2 h3; omega
  injection hv with h1 h2 h3
  subst h1
  obtain ⟨ad, cs, e1, hcl, hK, hcc⟩ := Kd.C_get hC [] (i : Int) (by omega) (by omega)
  injection e1 with e1
  subst e1
  rw [Int.toNat_natCast, List.getD_eq_getElem?_getD, List.getElem?_eq_getElem hi] at hK
  obtain ⟨hcs, hlen, hone⟩ := hK
  simp only [Option.getD_some] at hcs
  subst hcs
  have hcell : ∀ j (hj : j < sz), w.cell? ⟨g, i * sz + j, none⟩ = xs[i][j]? := by
    intro j hj
    have hj2 : j < xs[i].length := by rw [hlen]; exact hj
    have := hcc j _ (List.getElem?_eq_getElem hj2)
    rw [List.getElem?_eq_getElem hj2, ← this, Int.toNat_natCast, addr0]
    rfl
  refine ⟨g, rfl, hcell, fun j => blk_frozen hh j, fun j u hj hu => ?_⟩
  have hseg := Kd.R_seg (okp := fun _ => False) hF.1 (i : Int) (by omega) (by omega) (c := xs[i]) (seg := [u]) (j := j) (x' := xs[i].set j u) hlen (fun j' u' hu' => by
    have hj2 : j' < xs[i].length := (List.getElem?_eq_some_iff.1 hu').1
    have hj3 : j' < sz := by rw [← hlen]; exact hj2
    show w.cell? ⟨g, i * sz + j', none⟩ = some u'
    rw [hcell j' hj3]; exact hu') (by show j + 1 ≤ sz; omega) ⟨by
      rw [List.set_eq_take_append_cons_drop, if_pos (by rw [hlen]; exact hj)]
      simp, by simp [hlen]; omega, fun q hq => by
      rcases List.mem_append.1 hq with hq | hq
      · rcases List.mem_append.1 hq with hq | hq
        · exact hone q (List.take_subset _ _ hq)
        · rw [List.mem_singleton.1 hq]; exact hu
      · exact hone q (List.drop_subset _ _ hq)⟩ (fun _ h => h.elim)
  rw [Int.toNat_natCast] at hseg
  have hFg : F g := hF.1.1 g rfl
  exact K _ (Row (Kd.raw sz) e _ _) F ⟨hseg.1, fun k hk => by have := hF.2 k hk; simpa [World.setCell] using this⟩ ((Fr.refl w F).setCell (p := ⟨g, i * sz + j, none⟩) (.inl hFg) _) (fun k hk => .inl hk)
def fmT (x : Fm) : S61 := ⟨x.f, x.pc, x.loc, x.base⟩
def XL (g : Nat) (v vf : Value) (z : List (Fm × Value)) (s : FS) : List As := [Box g #[v, vf, .int .i64 s.room] 56, Row (Kd.int .u64) 35 v s.v, Row (Kd.raw 4) 61 vf (z.map fm4), Sep (rowsOf z)]
/-- The document's stack, as an object. -/
def XO (g : Nat) (s : FS) : As where
  P w F := ∃ v vf z, z.map Prod.fst = s.fr ∧ SL (XL g v vf z s) w F
  lt := fun ⟨_, _, _, _, h⟩ => SL.lt h
  mv := fun ⟨v, vf, z, e, h⟩ hm => ⟨v, vf, z, e, SL.mv h hm⟩
theorem SB.xopen {w0 w : World} {g : Nat} {s : FS} {L : List As} (h : SB w0 w (XO g s :: L)) :
    ∃ v vf z, z.map Prod.fst = s.fr ∧ SB w0 w (Box g #[v, vf, .int .i64 s.room] 56 :: Row (Kd.int .u64) 35 v s.v :: Row (Kd.raw 4) 61 vf (z.map fm4) :: Sep (rowsOf z) :: L) := by
  obtain ⟨h1, F, ⟨F1, F2, ⟨v, vf, z, e, ha⟩, hl, hd, he⟩, hF⟩ := h
  have h2 : SB w0 w (Sep (XL g v vf z s) :: L) := ⟨h1, F, ⟨F1, F2, ha, hl, hd, he⟩, hF⟩
  exact ⟨v, vf, z, e, SB.sepN.1 h2⟩
theorem SB.xclose {w0 w : World} {g : Nat} {s : FS} {L : List As} {v vf : Value} {z : List (Fm × Value)} (e : z.map Prod.fst = s.fr) (h : SB w0 w (Box g #[v, vf, .int .i64 s.room] 56 :: Row (Kd.int .u64) 35 v s.v :: Row (Kd.raw 4) 61 vf (z.map fm4) :: Sep (rowsOf z) :: L)) : SB w0 w (XO g s :: L) := by
  have h2 : SB w0 w (Sep (XL g v vf z s) :: L) := SB.sepN.2 h
  obtain ⟨h1, F, ⟨F1, F2, ha, hl, hd, he⟩, hF⟩ := h2
  exact ⟨h1, F, ⟨F1, F2, ⟨v, vf, z, e, ha⟩, hl, hd, he⟩, hF⟩
/-- What the cells hold. -/
theorem xo_cells {w0 w : World} {g : Nat} {s : FS} {L : List As} (h : SB w0 w (XO g s :: L)) :
    ∃ A c Af cf, w.cell? ⟨g, 0, none⟩ = some (.slice A s.v.length c) ∧ w.cell? ⟨g, 1, none⟩ = some (.slice Af s.fr.length cf) ∧ w.cell? ⟨g, 2, none⟩ = some (.int .i64 s.room) ∧ s.v.length ≤ c ∧ s.fr.length ≤ cf ∧ Kd.C (Kd.int .u64) w A s.v.length s.v := by
  obtain ⟨v, vf, z, e, h1⟩ := h.xopen
  have hb := h1.blk
  obtain ⟨A, c, rfl, hc, hC⟩ := (h1.pick2 [1]).reads
  obtain ⟨Af, cf, rfl, hcf, _⟩ := (h1.pick3 [2]).reads
  have hz : (z.map fm4).length = s.fr.length := by rw [List.length_map, ← e, List.length_map]
  rw [hz] at hb hcf
  exact ⟨A, c, Af, cf, blk_cell hb 0, blk_cell hb 1, blk_cell hb 2, hc, hcf, hC⟩
theorem xo_top {w0 w : World} {g : Nat} {s : FS} {L : List As} (h : SB w0 w (XO g s :: L)) {fr0 : List Fm} {x : Fm} (hx : s.fr = fr0 ++ [x]) :
    ∃ gf cf A c, w.cell? ⟨g, 1, none⟩ = some (.slice (some ⟨gf, 0, none⟩) (fr0.length + 1) cf) ∧ fr0.length + 1 ≤ cf ∧ w.cell? ⟨gf, fr0.length * 4, none⟩ = some (.int .i64 x.f) ∧ w.cell? ⟨gf, fr0.length * 4 + 1, none⟩ = some (.int .i64 x.pc) ∧
      w.cell? ⟨gf, fr0.length * 4 + 2, none⟩ = some (.slice A x.loc.length c) ∧ w.cell? ⟨gf, fr0.length * 4 + 3, none⟩ = some (.int .i64 x.base) ∧ Kd.C (Kd.int .u64) w A x.loc.length x.loc ∧ x.loc.length ≤ c := by
  obtain ⟨v, vf, z, hz, h1⟩ := h.xopen
  have hb := h1.blk
  obtain ⟨z0, y, rfl⟩ : ∃ z0 y, z = z0 ++ [y] := by
    rcases List.eq_nil_or_concat z with h | ⟨z0, y, h⟩
    · rw [h, hx] at hz; simp at hz
    · exact ⟨z0, y, by rw [h, List.concat_eq_append]⟩
  rw [List.map_append, hx] at hz
  obtain ⟨hz1, hz2⟩ := List.append_inj' hz rfl
  have hl0 : z0.length = fr0.length := by rw [← hz1]; simp
  have hy : y.1 = x := by simpa using hz2
  obtain ⟨Af, cf, rfl, hcf, _⟩ := (h1.pick3 [2]).reads
  have hlen : ((z0 ++ [y]).map fm4).length = fr0.length + 1 := by simp [hl0]
  obtain ⟨gf, rfl, hcell, _, _⟩ := (h1.pick3 [2]).rawAt fr0.length (by rw [hlen]; omega)
  have hget : ((z0 ++ [y]).map fm4)[fr0.length]'(by rw [hlen]; omega) = fm4 y := by
    simp only [List.getElem_map]
    rw [List.getElem_append_right (by omega)]
    simp
  simp only [hget] at hcell
  rw [rowsOf_push] at h1
  have h2 := SB.sepPop (h1.pick4 [3, 0, 1, 2])
  rw [hy] at h2
  obtain ⟨A, c, e, hc, hC⟩ := h2.reads
  have e4 : fm4 y = [.int .i64 x.f, .int .i64 x.pc, .slice A x.loc.length c, .int .i64 x.base] := by unfold fm4; rw [hy, e]
  rw [e4] at hcell
  rw [hlen] at hb hcf
  exact ⟨gf, cf, A, c, blk_cell hb 1, hcf, hcell 0 (by omega), hcell 1 (by omega), hcell 2 (by omega), hcell 3 (by omega), hC, hc⟩
theorem xBase0 {w0 w : World} {g : Nat} {s : FS} {L : List As} (h : SB w0 w (XO g s :: L)) (hf : s.fr.length ≤ 1000000) : Calls Try.prog 52 #[.pointer (some ⟨g, 0, none⟩)] w fun e w' => e = .returned (.int .i64 (baseOf s.fr)) ∧ ∃ m, w' = w.drewN m := by
  rcases List.eq_nil_or_concat s.fr with e | ⟨fr0, x, e⟩
  · obtain ⟨A, c, Af, cf, s0, s1, s2, hc, hcf, hC⟩ := xo_cells h
    rw [e] at s1
    rw [e]
    have HS := Aside0.mk h
    clear h hC e hf hcf hc
    go_enter Try.func52, Try.ntmps52
    go_wp2
    go_ret
    exact ⟨rfl, 0, rfl⟩
  · rw [List.concat_eq_append] at e
    obtain ⟨gf, cf, A, c, s1, hcf, t0, t1, t2, t3, hC, hc⟩ := xo_top h e
    obtain ⟨n, hn⟩ : ∃ n, fr0.length = n := ⟨_, rfl⟩
    have hn6 : n + 1 ≤ 1000000 := by rw [e] at hf; simp at hf; omega
    rw [hn] at s1 hcf t0 t1 t2 t3
    rw [e, baseOf_concat]
    have hwn : IntKind.i64.wrap (((n + 1 : Nat) : Int) - 1) = (n : Int) := by rw [IntKind.wrap_i64]; omega
    have HS := Aside0.mk h
    clear h hC e hf hn t0 t1 t2 hc hwn
    go_enter Try.func52, Try.ntmps52
    go_wp2
    go_quiet (fail)
    go_wp2
    go_ret
    exact ⟨rfl, _, rfl⟩
theorem xBase {w0 w : World} {L : List As} {g : Nat} {s : FS} (h : SB w0 w (XO g s :: L)) (hf : s.fr.length ≤ 1000000) : ∀ nd, Calls Try.prog 52 #[.pointer (some ⟨g, 0, none⟩)] (w.drewN nd) fun e w' => e = .returned (.int .i64 (baseOf s.fr)) ∧ ∃ m, w' = (w.drewN nd).drewN m :=
  fun nd => xBase0 (h.drewN nd) hf
end Go.Proofs.Ytbbgkelcdooabaa.G
