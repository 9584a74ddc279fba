-- Made by gprint.py (mine) over the kit's print.py, out of the translation; parts of it typed by hand.
import Derived.Test.YthddcbfgdpfcjaaG0
import Derived.Test.YthddcbfgdpfcjaaG2
import Derived.Test.YthddcbfgdpfcjaaG3
namespace Go.Proofs.Ythddcbfgdpfcjaa.G
open Go.RowKit Go.Proofs.YthddcbfgdpfcjaaW.PrintWords Go.Proofs.YthddcbfgdpfcjaaW.PrintLast Go.Proofs.YthddcbfgdpfcjaaW.PrintMore
attribute [local go_sem] max2_int min2_int max_two min_two max_three min_three max_four min_four   -- for this text's walks alone
set_option linter.unusedVariables false
set_option linter.unusedSimpArgs false

/-! ### types_Limits: function 17 -/
def types_Limits.f (l0 : List Int) (a1 : Int) : Option (Int × Int × Bool × Int × Int) :=
  (types_next.f 1 l0 a1).bind fun n => if n.2 = 0 then (if n.1 > 1 then some (0, 0, false, 0, 3) else (if 0 ≤ n.1 then ((leb_ReadU.f l0 (wrap64 (a1 + 1)) 32).bind fun u => if u.2.2 = 0 then (if n.1 = 0 then some (wrap64 u.1, 0, false, u.2.1, 0) else ((leb_ReadU.f l0 u.2.1 32).bind fun v => if v.2.2 = 0 then some (wrap64 u.1, wrap64 v.1, true, v.2.1, 0) else some (0, 0, false, 0, v.2.2))) else some (0, 0, false, 0, u.2.2)) else none)) else some (0, 0, false, 0, n.2)
theorem tyLim_bcell_ {W w1 : World} (hb : Below W.heap.size W w1) : (∀ b o, b < W.heap.size → w1.cell? ⟨b, o, none⟩ = W.cell? ⟨b, o, none⟩) ∧ (∀ b o, b < W.heap.size → w1.frozen? ⟨b, o, none⟩ = W.frozen? ⟨b, o, none⟩) :=
  ⟨fun b o h => hb.cell (p := ⟨b, o, none⟩) h, fun b o h => hb.frozen (p := ⟨b, o, none⟩) h⟩
def tyLim_LimPost (w : World) (r1 r2 : Int) (r3 : Bool) (r4 r5 : Int) (e : Ending) (w' : World) : Prop := e = .returned (.tuple #[.agg #[.int .i64 r1, .int .i64 r2, .bool r3], .int .i64 r4, .int .i64 r5]) ∧ Below w.heap.size w w'
set_option maxHeartbeats 8000000 in
set_option maxRecDepth 100000 in
theorem types_Limits.calls (A0 : Option Addr) (c0 : Nat) (l0 : List Int) (a1 : Int) (r1 : Int) (r2 : Int) (r3 : Bool) (r4 : Int) (r5 : Int) (w : World) (hr0 : Kd.C (Kd.int .u8) w A0 l0.length l0) (hc0 : l0.length ≤ c0) (h : types_Limits.f l0 a1 = some (r1, r2, r3, r4, r5)) :
    Calls Try.prog 17 #[.slice A0 l0.length c0, .int .i64 a1] w fun e w' => e = .returned (.tuple #[.agg #[.int .i64 r1, .int .i64 r2, .bool r3], .int .i64 r4, .int .i64 r5]) ∧ Below w.heap.size w w' := by
  have HR0 := Aside0.mk hr0
  have HC0 := Aside0.mk hc0
  clear hr0 hc0
  have HB := Aside0.mk (Below.refl w.heap.size w)
  unfold types_Limits.f at h
  obtain ⟨⟨n1, n2⟩, hn, h'⟩ := Option.bind_eq_some_iff.mp h
  clear h
  have HN := Aside0.mk hn
  clear hn
  show Calls Try.prog 17 _ w (tyLim_LimPost w r1 r2 r3 r4 r5)
  by_cases g2 : n2 = 0
  · have d2 : (n2 != 0) = false := bne_eq_false_iff_eq.mpr g2
    rw [if_pos g2] at h'
    by_cases g1 : n1 > 1
    · rw [if_pos g1] at h'
      simp only [Option.some.injEq, Prod.mk.injEq] at h'
      obtain ⟨rfl, rfl, rfl, rfl, rfl⟩ := h'
      clear g2
      go_enter Try.func17, Try.ntmps17
      go_wp2_with (go_at_call 27; (with_reducible refine (types_next.calls 1 A0 c0 l0 a1 n1 n2 _ (Kd.C_alloc HR0.out _) HC0.out HN.out).mono ?_); rintro e w' ⟨rfl, ⟨nd, rfl⟩⟩)
      exact bodyPost_ret (v := .tuple #[.agg #[.int .i64 0, .int .i64 0, .bool false], .int .i64 0, .int .i64 3]) (by simp [results, Try.results17, go_sem, *]) rfl ⟨rfl, (by repeat (first | exact HB.out | apply below_alloc | apply pw_below_drewN | apply below_drew1 | (refine Below.setCell ?_ (by first | omega | (simp; omega) | simp) _)))⟩
    · rw [if_neg g1] at h'
      by_cases g0 : 0 ≤ n1
      · rw [if_pos g0] at h'
        obtain ⟨⟨u1, u2, u3⟩, hu, h⟩ := Option.bind_eq_some_iff.mp h'
        clear h'
        have HU := Aside0.mk hu
        clear hu
        by_cases g3 : u3 = 0
        · have d3 : (u3 != 0) = false := bne_eq_false_iff_eq.mpr g3
          rw [if_pos g3] at h
          rcases (show n1 = 0 ∨ n1 = 1 by omega) with rfl | rfl
          · rw [if_pos rfl] at h
            simp only [Option.some.injEq, Prod.mk.injEq] at h
            obtain ⟨rfl, rfl, rfl, rfl, rfl⟩ := h
            clear g2 g3 g0 g1
            go_enter Try.func17, Try.ntmps17
            go_wp2_with (go_at_call 27; (with_reducible refine (types_next.calls 1 A0 c0 l0 a1 0 n2 _ (Kd.C_alloc HR0.out _) HC0.out HN.out).mono ?_); rintro e w' ⟨rfl, ⟨nd, rfl⟩⟩)
            refine wp_loop_rounds 2 ?_
            rw [rounds_succ]
            go_wp2_with (go_at_call 35; (with_reducible refine (leb_ReadU.calls A0 c0 l0 (wrap64 (a1 + 1)) 32 u1 u2 u3 _ (Kd.C_below HR0.out (by repeat (first | exact HB.out | apply below_alloc | apply pw_below_drewN | apply below_drew1 | (refine Below.setCell ?_ (by first | omega | (simp; omega) | simp) _)))) HC0.out HU.out).mono ?_); rintro e w1 ⟨rfl, hb⟩; have hsz := hb.size; simp at hsz; have hz1 : w.heap.size < w1.heap.size := (by omega); have hz2 : w.heap.size + 1 < w1.heap.size := (by omega); have qa0 : w1.cell? ⟨w.heap.size, 0, none⟩ = some (.int .i64 0) := ((hb.cell (p := ⟨w.heap.size, 0, none⟩) (by simp <;> omega)).trans (by simp [go_sem, *])); have za0 : w1.frozen? ⟨w.heap.size, 0, none⟩ = false := ((hb.frozen (p := ⟨w.heap.size, 0, none⟩) (by simp <;> omega)).trans (by simp [go_sem, *])); have qa1 : w1.cell? ⟨w.heap.size, 1, none⟩ = some (.int .i64 0) := ((hb.cell (p := ⟨w.heap.size, 1, none⟩) (by simp <;> omega)).trans (by simp [go_sem, *])); have za1 : w1.frozen? ⟨w.heap.size, 1, none⟩ = false := ((hb.frozen (p := ⟨w.heap.size, 1, none⟩) (by simp <;> omega)).trans (by simp [go_sem, *])); have qa2 : w1.cell? ⟨w.heap.size, 2, none⟩ = some (.bool false) := ((hb.cell (p := ⟨w.heap.size, 2, none⟩) (by simp <;> omega)).trans (by simp [go_sem, *])); have za2 : w1.frozen? ⟨w.heap.size, 2, none⟩ = false := ((hb.frozen (p := ⟨w.heap.size, 2, none⟩) (by simp <;> omega)).trans (by simp [go_sem, *])); have qa3 : w1.cell? ⟨w.heap.size + 1, 0, none⟩ = some (.int .i64 0) := ((hb.cell (p := ⟨w.heap.size + 1, 0, none⟩) (by simp <;> omega)).trans (by simp [go_sem, *])); have za3 : w1.frozen? ⟨w.heap.size + 1, 0, none⟩ = false := ((hb.frozen (p := ⟨w.heap.size + 1, 0, none⟩) (by simp <;> omega)).trans (by simp [go_sem, *])); have qa4 : w1.cell? ⟨w.heap.size + 1, 1, none⟩ = some (.int .i64 0) := ((hb.cell (p := ⟨w.heap.size + 1, 1, none⟩) (by simp <;> omega)).trans (by simp [go_sem, *])); have za4 : w1.frozen? ⟨w.heap.size + 1, 1, none⟩ = false := ((hb.frozen (p := ⟨w.heap.size + 1, 1, none⟩) (by simp <;> omega)).trans (by simp [go_sem, *])); have n0_ := Aside0.mk (below_step (show Below w.heap.size w _ from by repeat (first | exact HB.out | apply below_alloc | apply pw_below_drewN | apply below_drew1 | (refine Below.setCell ?_ (by first | omega | (simp; omega) | simp) _))) hb); clear HB; have HB := n0_; clear n0_ hb)
            rw [rounds_succ]
            go_wp2
            exact bodyPost_ret (v := .tuple #[.agg #[.int .i64 _, .int .i64 0, .bool false], .int .i64 _, .int .i64 0]) (by simp [results, Try.results17, go_sem, *]) rfl ⟨rfl, (by repeat (first | exact HB.out | apply below_alloc | apply pw_below_drewN | apply below_drew1 | (refine Below.setCell ?_ (by first | omega | (simp; omega) | simp) _)))⟩
          · rw [if_neg (by omega)] at h
            obtain ⟨⟨v1, v2, v3⟩, hv, h'⟩ := Option.bind_eq_some_iff.mp h
            clear h
            have HV := Aside0.mk hv
            clear hv
            by_cases g4 : v3 = 0
            · have d4 : (v3 != 0) = false := bne_eq_false_iff_eq.mpr g4
              rw [if_pos g4] at h'
              simp only [Option.some.injEq, Prod.mk.injEq] at h'
              obtain ⟨rfl, rfl, rfl, rfl, rfl⟩ := h'
              clear g2 g3 g4 g0 g1
              go_enter Try.func17, Try.ntmps17
              go_wp2_with (go_at_call 27; (with_reducible refine (types_next.calls 1 A0 c0 l0 a1 1 n2 _ (Kd.C_alloc HR0.out _) HC0.out HN.out).mono ?_); rintro e w' ⟨rfl, ⟨nd, rfl⟩⟩)
              refine wp_loop_rounds 3 ?_
              rw [rounds_succ]
              go_wp2_with (go_at_call 35; (with_reducible refine (leb_ReadU.calls A0 c0 l0 (wrap64 (a1 + 1)) 32 u1 u2 u3 _ (Kd.C_below HR0.out (by repeat (first | exact HB.out | apply below_alloc | apply pw_below_drewN | apply below_drew1 | (refine Below.setCell ?_ (by first | omega | (simp; omega) | simp) _)))) HC0.out HU.out).mono ?_); rintro e w1 ⟨rfl, hb⟩; have hsz := hb.size; simp at hsz; have hz1 : w.heap.size < w1.heap.size := (by omega); have hz2 : w.heap.size + 1 < w1.heap.size := (by omega); have qa0 : w1.cell? ⟨w.heap.size, 0, none⟩ = some (.int .i64 0) := ((hb.cell (p := ⟨w.heap.size, 0, none⟩) (by simp <;> omega)).trans (by simp [go_sem, *])); have za0 : w1.frozen? ⟨w.heap.size, 0, none⟩ = false := ((hb.frozen (p := ⟨w.heap.size, 0, none⟩) (by simp <;> omega)).trans (by simp [go_sem, *])); have qa1 : w1.cell? ⟨w.heap.size, 1, none⟩ = some (.int .i64 0) := ((hb.cell (p := ⟨w.heap.size, 1, none⟩) (by simp <;> omega)).trans (by simp [go_sem, *])); have za1 : w1.frozen? ⟨w.heap.size, 1, none⟩ = false := ((hb.frozen (p := ⟨w.heap.size, 1, none⟩) (by simp <;> omega)).trans (by simp [go_sem, *])); have qa2 : w1.cell? ⟨w.heap.size, 2, none⟩ = some (.bool false) := ((hb.cell (p := ⟨w.heap.size, 2, none⟩) (by simp <;> omega)).trans (by simp [go_sem, *])); have za2 : w1.frozen? ⟨w.heap.size, 2, none⟩ = false := ((hb.frozen (p := ⟨w.heap.size, 2, none⟩) (by simp <;> omega)).trans (by simp [go_sem, *])); have qa3 : w1.cell? ⟨w.heap.size + 1, 0, none⟩ = some (.int .i64 0) := ((hb.cell (p := ⟨w.heap.size + 1, 0, none⟩) (by simp <;> omega)).trans (by simp [go_sem, *])); have za3 : w1.frozen? ⟨w.heap.size + 1, 0, none⟩ = false := ((hb.frozen (p := ⟨w.heap.size + 1, 0, none⟩) (by simp <;> omega)).trans (by simp [go_sem, *])); have qa4 : w1.cell? ⟨w.heap.size + 1, 1, none⟩ = some (.int .i64 0) := ((hb.cell (p := ⟨w.heap.size + 1, 1, none⟩) (by simp <;> omega)).trans (by simp [go_sem, *])); have za4 : w1.frozen? ⟨w.heap.size + 1, 1, none⟩ = false := ((hb.frozen (p := ⟨w.heap.size + 1, 1, none⟩) (by simp <;> omega)).trans (by simp [go_sem, *])); have n0_ := Aside0.mk (below_step (show Below w.heap.size w _ from by repeat (first | exact HB.out | apply below_alloc | apply pw_below_drewN | apply below_drew1 | (refine Below.setCell ?_ (by first | omega | (simp; omega) | simp) _))) hb); clear HB; have HB := n0_; clear n0_ hb)
              rw [rounds_succ]
              go_wp2_with (go_at_call 35; (with_reducible refine (leb_ReadU.calls A0 c0 l0 u2 32 v1 v2 v3 _ (Kd.C_below HR0.out (by repeat (first | exact HB.out | apply below_alloc | apply pw_below_drewN | apply below_drew1 | (refine Below.setCell ?_ (by first | omega | (simp; omega) | simp) _)))) HC0.out HV.out).mono ?_); rintro e w2 ⟨rfl, hb⟩; have hsz2 := hb.size; simp at hsz2; have hz3 : w.heap.size < w2.heap.size := (by omega); have hz4 : w.heap.size + 1 < w2.heap.size := (by omega); have qb0 : w2.cell? ⟨w.heap.size, 0, none⟩ = some (.int .i64 0) := ((hb.cell (p := ⟨w.heap.size, 0, none⟩) (by simp <;> omega)).trans (by simp [go_sem, *])); have zb0 : w2.frozen? ⟨w.heap.size, 0, none⟩ = false := ((hb.frozen (p := ⟨w.heap.size, 0, none⟩) (by simp <;> omega)).trans (by simp [go_sem, *])); have qb1 : w2.cell? ⟨w.heap.size, 1, none⟩ = some (.int .i64 0) := ((hb.cell (p := ⟨w.heap.size, 1, none⟩) (by simp <;> omega)).trans (by simp [go_sem, *])); have zb1 : w2.frozen? ⟨w.heap.size, 1, none⟩ = false := ((hb.frozen (p := ⟨w.heap.size, 1, none⟩) (by simp <;> omega)).trans (by simp [go_sem, *])); have qb2 : w2.cell? ⟨w.heap.size, 2, none⟩ = some (.bool false) := ((hb.cell (p := ⟨w.heap.size, 2, none⟩) (by simp <;> omega)).trans (by simp [go_sem, *])); have zb2 : w2.frozen? ⟨w.heap.size, 2, none⟩ = false := ((hb.frozen (p := ⟨w.heap.size, 2, none⟩) (by simp <;> omega)).trans (by simp [go_sem, *])); have qb3 : w2.cell? ⟨w.heap.size + 1, 0, none⟩ = some (.int .i64 (wrap64 u1)) := ((hb.cell (p := ⟨w.heap.size + 1, 0, none⟩) (by simp <;> omega)).trans (by simp [go_sem, *])); have zb3 : w2.frozen? ⟨w.heap.size + 1, 0, none⟩ = false := ((hb.frozen (p := ⟨w.heap.size + 1, 0, none⟩) (by simp <;> omega)).trans (by simp [go_sem, *])); have qb4 : w2.cell? ⟨w.heap.size + 1, 1, none⟩ = some (.int .i64 0) := ((hb.cell (p := ⟨w.heap.size + 1, 1, none⟩) (by simp <;> omega)).trans (by simp [go_sem, *])); have zb4 : w2.frozen? ⟨w.heap.size + 1, 1, none⟩ = false := ((hb.frozen (p := ⟨w.heap.size + 1, 1, none⟩) (by simp <;> omega)).trans (by simp [go_sem, *])); have n0_ := Aside0.mk (below_step (show Below w.heap.size w _ from by repeat (first | exact HB.out | apply below_alloc | apply pw_below_drewN | apply below_drew1 | (refine Below.setCell ?_ (by first | omega | (simp; omega) | simp) _))) hb); clear HB; have HB := n0_; clear n0_ hb)
              rw [rounds_succ]
              go_wp2
              exact bodyPost_ret (v := .tuple #[.agg #[.int .i64 _, .int .i64 _, .bool true], .int .i64 _, .int .i64 0]) (by simp [results, Try.results17, go_sem, *]) rfl ⟨rfl, (by repeat (first | exact HB.out | apply below_alloc | apply pw_below_drewN | apply below_drew1 | (refine Below.setCell ?_ (by first | omega | (simp; omega) | simp) _)))⟩
            · have d4 : (v3 != 0) = true := bne_iff_ne.mpr g4
              rw [if_neg g4] at h'
              simp only [Option.some.injEq, Prod.mk.injEq] at h'
              obtain ⟨rfl, rfl, rfl, rfl, rfl⟩ := h'
              clear g2 g3 g4 g0 g1
              go_enter Try.func17, Try.ntmps17
              go_wp2_with (go_at_call 27; (with_reducible refine (types_next.calls 1 A0 c0 l0 a1 1 n2 _ (Kd.C_alloc HR0.out _) HC0.out HN.out).mono ?_); rintro e w' ⟨rfl, ⟨nd, rfl⟩⟩)
              refine wp_loop_rounds 3 ?_
              rw [rounds_succ]
              go_wp2_with (go_at_call 35; (with_reducible refine (leb_ReadU.calls A0 c0 l0 (wrap64 (a1 + 1)) 32 u1 u2 u3 _ (Kd.C_below HR0.out (by repeat (first | exact HB.out | apply below_alloc | apply pw_below_drewN | apply below_drew1 | (refine Below.setCell ?_ (by first | omega | (simp; omega) | simp) _)))) HC0.out HU.out).mono ?_); rintro e w1 ⟨rfl, hb⟩; have hsz := hb.size; simp at hsz; have hz1 : w.heap.size < w1.heap.size := (by omega); have hz2 : w.heap.size + 1 < w1.heap.size := (by omega); have qa0 : w1.cell? ⟨w.heap.size, 0, none⟩ = some (.int .i64 0) := ((hb.cell (p := ⟨w.heap.size, 0, none⟩) (by simp <;> omega)).trans (by simp [go_sem, *])); have za0 : w1.frozen? ⟨w.heap.size, 0, none⟩ = false := ((hb.frozen (p := ⟨w.heap.size, 0, none⟩) (by simp <;> omega)).trans (by simp [go_sem, *])); have qa1 : w1.cell? ⟨w.heap.size, 1, none⟩ = some (.int .i64 0) := ((hb.cell (p := ⟨w.heap.size, 1, none⟩) (by simp <;> omega)).trans (by simp [go_sem, *])); have za1 : w1.frozen? ⟨w.heap.size, 1, none⟩ = false := ((hb.frozen (p := ⟨w.heap.size, 1, none⟩) (by simp <;> omega)).trans (by simp [go_sem, *])); have qa2 : w1.cell? ⟨w.heap.size, 2, none⟩ = some (.bool false) := ((hb.cell (p := ⟨w.heap.size, 2, none⟩) (by simp <;> omega)).trans (by simp [go_sem, *])); have za2 : w1.frozen? ⟨w.heap.size, 2, none⟩ = false := ((hb.frozen (p := ⟨w.heap.size, 2, none⟩) (by simp <;> omega)).trans (by simp [go_sem, *])); have qa3 : w1.cell? ⟨w.heap.size + 1, 0, none⟩ = some (.int .i64 0) := ((hb.cell (p := ⟨w.heap.size + 1, 0, none⟩) (by simp <;> omega)).trans (by simp [go_sem, *])); have za3 : w1.frozen? ⟨w.heap.size + 1, 0, none⟩ = false := ((hb.frozen (p := ⟨w.heap.size + 1, 0, none⟩) (by simp <;> omega)).trans (by simp [go_sem, *])); have qa4 : w1.cell? ⟨w.heap.size + 1, 1, none⟩ = some (.int .i64 0) := ((hb.cell (p := ⟨w.heap.size + 1, 1, none⟩) (by simp <;> omega)).trans (by simp [go_sem, *])); have za4 : w1.frozen? ⟨w.heap.size + 1, 1, none⟩ = false := ((hb.frozen (p := ⟨w.heap.size + 1, 1, none⟩) (by simp <;> omega)).trans (by simp [go_sem, *])); have n0_ := Aside0.mk (below_step (show Below w.heap.size w _ from by repeat (first | exact HB.out | apply below_alloc | apply pw_below_drewN | apply below_drew1 | (refine Below.setCell ?_ (by first | omega | (simp; omega) | simp) _))) hb); clear HB; have HB := n0_; clear n0_ hb)
              rw [rounds_succ]
              go_wp2_with (go_at_call 35; (with_reducible refine (leb_ReadU.calls A0 c0 l0 u2 32 v1 v2 v3 _ (Kd.C_below HR0.out (by repeat (first | exact HB.out | apply below_alloc | apply pw_below_drewN | apply below_drew1 | (refine Below.setCell ?_ (by first | omega | (simp; omega) | simp) _)))) HC0.out HV.out).mono ?_); rintro e w2 ⟨rfl, hb⟩; have hsz2 := hb.size; simp at hsz2; have hz3 : w.heap.size < w2.heap.size := (by omega); have hz4 : w.heap.size + 1 < w2.heap.size := (by omega); have qb0 : w2.cell? ⟨w.heap.size, 0, none⟩ = some (.int .i64 0) := ((hb.cell (p := ⟨w.heap.size, 0, none⟩) (by simp <;> omega)).trans (by simp [go_sem, *])); have zb0 : w2.frozen? ⟨w.heap.size, 0, none⟩ = false := ((hb.frozen (p := ⟨w.heap.size, 0, none⟩) (by simp <;> omega)).trans (by simp [go_sem, *])); have qb1 : w2.cell? ⟨w.heap.size, 1, none⟩ = some (.int .i64 0) := ((hb.cell (p := ⟨w.heap.size, 1, none⟩) (by simp <;> omega)).trans (by simp [go_sem, *])); have zb1 : w2.frozen? ⟨w.heap.size, 1, none⟩ = false := ((hb.frozen (p := ⟨w.heap.size, 1, none⟩) (by simp <;> omega)).trans (by simp [go_sem, *])); have qb2 : w2.cell? ⟨w.heap.size, 2, none⟩ = some (.bool false) := ((hb.cell (p := ⟨w.heap.size, 2, none⟩) (by simp <;> omega)).trans (by simp [go_sem, *])); have zb2 : w2.frozen? ⟨w.heap.size, 2, none⟩ = false := ((hb.frozen (p := ⟨w.heap.size, 2, none⟩) (by simp <;> omega)).trans (by simp [go_sem, *])); have qb3 : w2.cell? ⟨w.heap.size + 1, 0, none⟩ = some (.int .i64 (wrap64 u1)) := ((hb.cell (p := ⟨w.heap.size + 1, 0, none⟩) (by simp <;> omega)).trans (by simp [go_sem, *])); have zb3 : w2.frozen? ⟨w.heap.size + 1, 0, none⟩ = false := ((hb.frozen (p := ⟨w.heap.size + 1, 0, none⟩) (by simp <;> omega)).trans (by simp [go_sem, *])); have qb4 : w2.cell? ⟨w.heap.size + 1, 1, none⟩ = some (.int .i64 0) := ((hb.cell (p := ⟨w.heap.size + 1, 1, none⟩) (by simp <;> omega)).trans (by simp [go_sem, *])); have zb4 : w2.frozen? ⟨w.heap.size + 1, 1, none⟩ = false := ((hb.frozen (p := ⟨w.heap.size + 1, 1, none⟩) (by simp <;> omega)).trans (by simp [go_sem, *])); have n0_ := Aside0.mk (below_step (show Below w.heap.size w _ from by repeat (first | exact HB.out | apply below_alloc | apply pw_below_drewN | apply below_drew1 | (refine Below.setCell ?_ (by first | omega | (simp; omega) | simp) _))) hb); clear HB; have HB := n0_; clear n0_ hb)
              exact bodyPost_ret (v := .tuple #[.agg #[.int .i64 0, .int .i64 0, .bool false], .int .i64 0, .int .i64 _]) (by simp [results, Try.results17, go_sem, *]) rfl ⟨rfl, (by repeat (first | exact HB.out | apply below_alloc | apply pw_below_drewN | apply below_drew1 | (refine Below.setCell ?_ (by first | omega | (simp; omega) | simp) _)))⟩
        · have d3 : (u3 != 0) = true := bne_iff_ne.mpr g3
          rw [if_neg g3] at h
          simp only [Option.some.injEq, Prod.mk.injEq] at h
          obtain ⟨rfl, rfl, rfl, rfl, rfl⟩ := h
          clear g2 g3
          rcases (show n1 = 0 ∨ n1 = 1 by omega) with rfl | rfl
          · clear g0 g1
            go_enter Try.func17, Try.ntmps17
            go_wp2_with (go_at_call 27; (with_reducible refine (types_next.calls 1 A0 c0 l0 a1 0 n2 _ (Kd.C_alloc HR0.out _) HC0.out HN.out).mono ?_); rintro e w' ⟨rfl, ⟨nd, rfl⟩⟩)
            refine wp_loop_rounds 2 ?_
            rw [rounds_succ]
            go_wp2_with (go_at_call 35; (with_reducible refine (leb_ReadU.calls A0 c0 l0 (wrap64 (a1 + 1)) 32 u1 u2 u3 _ (Kd.C_below HR0.out (by repeat (first | exact HB.out | apply below_alloc | apply pw_below_drewN | apply below_drew1 | (refine Below.setCell ?_ (by first | omega | (simp; omega) | simp) _)))) HC0.out HU.out).mono ?_); rintro e w1 ⟨rfl, hb⟩; have hsz := hb.size; simp at hsz; have hz1 : w.heap.size < w1.heap.size := (by omega); have hz2 : w.heap.size + 1 < w1.heap.size := (by omega); have qa0 : w1.cell? ⟨w.heap.size, 0, none⟩ = some (.int .i64 0) := ((hb.cell (p := ⟨w.heap.size, 0, none⟩) (by simp <;> omega)).trans (by simp [go_sem, *])); have za0 : w1.frozen? ⟨w.heap.size, 0, none⟩ = false := ((hb.frozen (p := ⟨w.heap.size, 0, none⟩) (by simp <;> omega)).trans (by simp [go_sem, *])); have qa1 : w1.cell? ⟨w.heap.size, 1, none⟩ = some (.int .i64 0) := ((hb.cell (p := ⟨w.heap.size, 1, none⟩) (by simp <;> omega)).trans (by simp [go_sem, *])); have za1 : w1.frozen? ⟨w.heap.size, 1, none⟩ = false := ((hb.frozen (p := ⟨w.heap.size, 1, none⟩) (by simp <;> omega)).trans (by simp [go_sem, *])); have qa2 : w1.cell? ⟨w.heap.size, 2, none⟩ = some (.bool false) := ((hb.cell (p := ⟨w.heap.size, 2, none⟩) (by simp <;> omega)).trans (by simp [go_sem, *])); have za2 : w1.frozen? ⟨w.heap.size, 2, none⟩ = false := ((hb.frozen (p := ⟨w.heap.size, 2, none⟩) (by simp <;> omega)).trans (by simp [go_sem, *])); have qa3 : w1.cell? ⟨w.heap.size + 1, 0, none⟩ = some (.int .i64 0) := ((hb.cell (p := ⟨w.heap.size + 1, 0, none⟩) (by simp <;> omega)).trans (by simp [go_sem, *])); have za3 : w1.frozen? ⟨w.heap.size + 1, 0, none⟩ = false := ((hb.frozen (p := ⟨w.heap.size + 1, 0, none⟩) (by simp <;> omega)).trans (by simp [go_sem, *])); have qa4 : w1.cell? ⟨w.heap.size + 1, 1, none⟩ = some (.int .i64 0) := ((hb.cell (p := ⟨w.heap.size + 1, 1, none⟩) (by simp <;> omega)).trans (by simp [go_sem, *])); have za4 : w1.frozen? ⟨w.heap.size + 1, 1, none⟩ = false := ((hb.frozen (p := ⟨w.heap.size + 1, 1, none⟩) (by simp <;> omega)).trans (by simp [go_sem, *])); have n0_ := Aside0.mk (below_step (show Below w.heap.size w _ from by repeat (first | exact HB.out | apply below_alloc | apply pw_below_drewN | apply below_drew1 | (refine Below.setCell ?_ (by first | omega | (simp; omega) | simp) _))) hb); clear HB; have HB := n0_; clear n0_ hb)
            exact bodyPost_ret (v := .tuple #[.agg #[.int .i64 0, .int .i64 0, .bool false], .int .i64 0, .int .i64 _]) (by simp [results, Try.results17, go_sem, *]) rfl ⟨rfl, (by repeat (first | exact HB.out | apply below_alloc | apply pw_below_drewN | apply below_drew1 | (refine Below.setCell ?_ (by first | omega | (simp; omega) | simp) _)))⟩
          · clear g0 g1
            go_enter Try.func17, Try.ntmps17
            go_wp2_with (go_at_call 27; (with_reducible refine (types_next.calls 1 A0 c0 l0 a1 1 n2 _ (Kd.C_alloc HR0.out _) HC0.out HN.out).mono ?_); rintro e w' ⟨rfl, ⟨nd, rfl⟩⟩)
            refine wp_loop_rounds 3 ?_
            rw [rounds_succ]
            go_wp2_with (go_at_call 35; (with_reducible refine (leb_ReadU.calls A0 c0 l0 (wrap64 (a1 + 1)) 32 u1 u2 u3 _ (Kd.C_below HR0.out (by repeat (first | exact HB.out | apply below_alloc | apply pw_below_drewN | apply below_drew1 | (refine Below.setCell ?_ (by first | omega | (simp; omega) | simp) _)))) HC0.out HU.out).mono ?_); rintro e w1 ⟨rfl, hb⟩; have hsz := hb.size; simp at hsz; have hz1 : w.heap.size < w1.heap.size := (by omega); have hz2 : w.heap.size + 1 < w1.heap.size := (by omega); have qa0 : w1.cell? ⟨w.heap.size, 0, none⟩ = some (.int .i64 0) := ((hb.cell (p := ⟨w.heap.size, 0, none⟩) (by simp <;> omega)).trans (by simp [go_sem, *])); have za0 : w1.frozen? ⟨w.heap.size, 0, none⟩ = false := ((hb.frozen (p := ⟨w.heap.size, 0, none⟩) (by simp <;> omega)).trans (by simp [go_sem, *])); have qa1 : w1.cell? ⟨w.heap.size, 1, none⟩ = some (.int .i64 0) := ((hb.cell (p := ⟨w.heap.size, 1, none⟩) (by simp <;> omega)).trans (by simp [go_sem, *])); have za1 : w1.frozen? ⟨w.heap.size, 1, none⟩ = false := ((hb.frozen (p := ⟨w.heap.size, 1, none⟩) (by simp <;> omega)).trans (by simp [go_sem, *])); have qa2 : w1.cell? ⟨w.heap.size, 2, none⟩ = some (.bool false) := ((hb.cell (p := ⟨w.heap.size, 2, none⟩) (by simp <;> omega)).trans (by simp [go_sem, *])); have za2 : w1.frozen? ⟨w.heap.size, 2, none⟩ = false := ((hb.frozen (p := ⟨w.heap.size, 2, none⟩) (by simp <;> omega)).trans (by simp [go_sem, *])); have qa3 : w1.cell? ⟨w.heap.size + 1, 0, none⟩ = some (.int .i64 0) := ((hb.cell (p := ⟨w.heap.size + 1, 0, none⟩) (by simp <;> omega)).trans (by simp [go_sem, *])); have za3 : w1.frozen? ⟨w.heap.size + 1, 0, none⟩ = false := ((hb.frozen (p := ⟨w.heap.size + 1, 0, none⟩) (by simp <;> omega)).trans (by simp [go_sem, *])); have qa4 : w1.cell? ⟨w.heap.size + 1, 1, none⟩ = some (.int .i64 0) := ((hb.cell (p := ⟨w.heap.size + 1, 1, none⟩) (by simp <;> omega)).trans (by simp [go_sem, *])); have za4 : w1.frozen? ⟨w.heap.size + 1, 1, none⟩ = false := ((hb.frozen (p := ⟨w.heap.size + 1, 1, none⟩) (by simp <;> omega)).trans (by simp [go_sem, *])); have n0_ := Aside0.mk (below_step (show Below w.heap.size w _ from by repeat (first | exact HB.out | apply below_alloc | apply pw_below_drewN | apply below_drew1 | (refine Below.setCell ?_ (by first | omega | (simp; omega) | simp) _))) hb); clear HB; have HB := n0_; clear n0_ hb)
            exact bodyPost_ret (v := .tuple #[.agg #[.int .i64 0, .int .i64 0, .bool false], .int .i64 0, .int .i64 _]) (by simp [results, Try.results17, go_sem, *]) rfl ⟨rfl, (by repeat (first | exact HB.out | apply below_alloc | apply pw_below_drewN | apply below_drew1 | (refine Below.setCell ?_ (by first | omega | (simp; omega) | simp) _)))⟩
      · rw [if_neg g0] at h'; simp at h'
  · have d2 : (n2 != 0) = true := bne_iff_ne.mpr g2
    rw [if_neg g2] at h'
    simp only [Option.some.injEq, Prod.mk.injEq] at h'
    obtain ⟨rfl, rfl, rfl, rfl, rfl⟩ := h'
    clear g2
    go_enter Try.func17, Try.ntmps17
    go_wp2_with (go_at_call 27; (with_reducible refine (types_next.calls 1 A0 c0 l0 a1 n1 n2 _ (Kd.C_alloc HR0.out _) HC0.out HN.out).mono ?_); rintro e w' ⟨rfl, ⟨nd, rfl⟩⟩)
    exact bodyPost_ret (v := .tuple #[.agg #[.int .i64 0, .int .i64 0, .bool false], .int .i64 0, .int .i64 _]) (by simp [results, Try.results17, go_sem, *]) rfl ⟨rfl, (by repeat (first | exact HB.out | apply below_alloc | apply pw_below_drewN | apply below_drew1 | (refine Below.setCell ?_ (by first | omega | (simp; omega) | simp) _)))⟩

end Go.Proofs.Ythddcbfgdpfcjaa.G
