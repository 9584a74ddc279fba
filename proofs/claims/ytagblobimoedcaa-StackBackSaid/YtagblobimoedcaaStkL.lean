/- Awake: the document's example. -/
import Derived.Test.YtagblobimoedcaaStkK
namespace Go.Proofs.Ytagblobimoedcaa.G
open Go.RowKit Go.Proofs.YtagblobimoedcaaW.PrintWords Go.Proofs.YtagblobimoedcaaW.PrintLast Go.Proofs.YtagblobimoedcaaW.PrintMore
set_option linter.unusedVariables false
set_option linter.unusedSimpArgs false
theorem litC5 (w : World) (x : Int) : Kd.C (Kd.int .u8) (w.alloc (.cells #[.int .u8 x] 5)) (some ⟨w.heap.size, 0, none⟩) 1 [x] := by
  obtain ⟨A, c, e, _, hC⟩ := ((SB.start w).lit (k := .u8) (e := 5) [x] (by simp)).reads
  injection e with e1 e2 e3
  subst e1
  exact hC
def kOne : S31 := ⟨2, [127], 0, false⟩
theorem aw_open : sOpen [] [] 2 [127] = ([], [kOne], 0) := by rfl
theorem aw_kill : sKill [] [kOne] = ([], [{ kOne with f3 := true }], 0) := by rfl
theorem aw_want1 : sWant [] [{ kOne with f3 := true }] [127] = ([], [{ kOne with f3 := true }], 0) := by rfl
theorem aw_want2 : sWant [] [kOne] [127] = ([], [], 5) := by rfl
theorem modest0 (cs : List S31) (h : cs.length ≤ 400000000) : modest [] cs := ⟨by simp, h⟩
set_option maxHeartbeats 8000000 in
set_option maxRecDepth 100000 in
theorem awakeS (w : World) : Calls Try.prog 9 #[] w fun e w' => e = .returned (.bool true) ∧ Below w.heap.size w w' := by
  have H1 := Aside0.mk (show ∀ W : World, Calls Try.prog 17 #[.agg #[.slice none 0 0, .slice none 0 0], .int .i64 2, .slice (some ⟨W.heap.size, 0, none⟩) 1 1] (W.alloc (.cells #[.int .u8 127] 5)) fun e w' => ∃ B0 d0 B1 d1, e = .returned (.tuple #[.agg #[.slice B0 0 d0, .slice B1 1 d1], .int .i64 0]) ∧ HoldS w' B0 d0 B1 d1 [] [kOne] ∧ Below W.heap.size W w' from fun W => by
    have := stkOpen (holdNil (W.alloc (.cells #[.int .u8 127] 5))) 2 (litC5 W 127) (cl := 1) (by decide) (modest0 _ (by simp)) (by decide)
    rw [aw_open] at this
    exact this.mono (fun e w' ⟨B0, d0, B1, d1, h1, h2, h3⟩ => ⟨B0, d0, B1, d1, h1, h2, below_then (below_alloc (Below.refl _ _) _) (by simp) h3⟩))
  have H2 := Aside0.mk (show ∀ (W : World) (A0 A1 : Option Addr) (c0 c1 : Nat), HoldS W A0 c0 A1 c1 [] [kOne] → Calls Try.prog 21 #[.agg #[.slice A0 0 c0, .slice A1 1 c1]] W fun e w' => ∃ B0 d0 B1 d1, e = .returned (.tuple #[.agg #[.slice B0 0 d0, .slice B1 1 d1], .int .i64 0]) ∧ HoldS w' B0 d0 B1 d1 [] [{ kOne with f3 := true }] ∧ Below W.heap.size W w' from fun W A0 A1 c0 c1 h => by
    have := stkKill h (modest0 _ (by simp))
    rw [aw_kill] at this
    exact this)
  have H3 := Aside0.mk (show ∀ (W : World) (q : Nat), q = W.heap.size → ∀ (A0 A1 : Option Addr) (c0 c1 : Nat), HoldS W A0 c0 A1 c1 [] [{ kOne with f3 := true }] → Calls Try.prog 14 #[.agg #[.slice A0 0 c0, .slice A1 1 c1], .slice (some ⟨q, 0, none⟩) 1 1] (W.alloc (.cells #[.int .u8 127] 5)) fun e w' => ∃ B0 d0 B1 d1, e = .returned (.tuple #[.agg #[.slice B0 0 d0, .slice B1 1 d1], .int .i64 0]) ∧ Below W.heap.size W w' from fun W q hq A0 A1 c0 c1 h => by
    subst hq
    have := stkWantS (h.below (below_alloc (Below.refl _ _) (.cells #[.int .u8 127] 5))) (litC5 W 127) (cl := 1) (modest0 _ (by simp)) (by decide)
    rw [aw_want1] at this
    exact this.mono (fun e w' ⟨B0, d0, B1, d1, h1, h2, h3⟩ => ⟨B0, d0, B1, d1, h1, below_then (below_alloc (Below.refl _ _) _) (by simp) h3⟩))
  have H4 := Aside0.mk (show ∀ (W : World) (q : Nat), q = W.heap.size → ∀ (A0 A1 : Option Addr) (c0 c1 : Nat), HoldS W A0 c0 A1 c1 [] [kOne] → Calls Try.prog 14 #[.agg #[.slice A0 0 c0, .slice A1 1 c1], .slice (some ⟨q, 0, none⟩) 1 1] (W.alloc (.cells #[.int .u8 127] 5)) fun e w' => ∃ B0 d0 B1 d1, e = .returned (.tuple #[.agg #[.slice B0 0 d0, .slice B1 0 d1], .int .i64 5]) ∧ Below W.heap.size W w' from fun W q hq A0 A1 c0 c1 h => by
    subst hq
    have := stkWantS (h.below (below_alloc (Below.refl _ _) (.cells #[.int .u8 127] 5))) (litC5 W 127) (cl := 1) (modest0 _ (by simp)) (by decide)
    rw [aw_want2] at this
    exact this.mono (fun e w' ⟨B0, d0, B1, d1, h1, h2, h3⟩ => ⟨B0, d0, B1, d1, h1, below_then (below_alloc (Below.refl _ _) _) (by simp) h3⟩))
  go_enter Try.func9, Try.ntmps9
  go_wp2_with (first
    | (go_at_call 17; (with_reducible refine (H1.out _).mono ?_); rintro e w1 ⟨B0, d0, B1, d1, rfl, h, hb⟩; have HA := Aside0.mk h; have HW1 := Aside0.mk (((SB.start w).below hb).box #[.slice B0 0 d0, .slice B1 1 d1] 28); have HA1 := Aside0.mk (h.below (below_alloc (Below.refl _ _) (.cells #[.slice B0 0 d0, .slice B1 1 d1] 28))); have x1 := SB.boxAt w1.heap.size 28 HW1.out; clear h hb)
    | (go_at_call 21; (with_reducible refine (H2.out _ _ _ _ _ HA1.out).mono ?_); rintro e w2 ⟨C0, f0, C1, f1, rfl, h, hb⟩; have HB := Aside0.mk h; have HW2 := Aside0.mk ((HW1.out.below hb).box #[.slice C0 0 f0, .slice C1 1 f1] 28); have HA2 := Aside0.mk (HA1.out.below (below_then hb hb.size (below_alloc (Below.refl _ _) (.cells #[.slice C0 0 f0, .slice C1 1 f1] 28)))); have HB2 := Aside0.mk (h.below (below_alloc (Below.refl _ _) (.cells #[.slice C0 0 f0, .slice C1 1 f1] 28))); clear h hb)
    | (go_at_call 14; (with_reducible refine (H3.out _ _ (by simp) _ _ _ _ HB2.out).mono ?_); rintro e w3 ⟨D0, g0, D1, g1, rfl, hb⟩; have HW3 := Aside0.mk ((HW2.out.below hb).box #[.slice D0 0 g0, .slice D1 1 g1] 28); have HA3 := Aside0.mk (HA2.out.below (below_then hb hb.size (below_alloc (Below.refl _ _) (.cells #[.slice D0 0 g0, .slice D1 1 g1] 28)))); have HB3 := Aside0.mk (HB2.out.below hb); clear hb; have x1 := SB.boxAt w1.heap.size 28 HW3.out; have s0 := blk_cell x1 0; have s1 := blk_cell x1 1; clear x1)
    | (go_at_call 14; (with_reducible refine (H4.out _ _ (by simp) _ _ _ _ HA3.out).mono ?_); rintro e w4 ⟨E0, i0, E1, i1, rfl, hb⟩; have HW4 := Aside0.mk (HW3.out.below hb); have HB4 := Aside0.mk ((HB3.out.below (below_alloc (Below.refl _ _) _)).below hb); clear hb; have x2 := SB.boxAt w2.heap.size 28 HW4.out; have t0 := blk_cell x2 0; have t1 := blk_cell x2 1; have hl2 := blk_lt x2; clear x2; obtain ⟨ad, Ae, ce, had, _, _, _, r3, _, _⟩ := at_T31 HB4.out.hc (0 : Int) (by omega) (by decide); have r3b : w4.cell? ⟨ad.block, ad.off + 3, none⟩ = some (.bool true) := r3; subst had; have hl3 := World.block_lt_of_cell? w4 _ r3b; clear r3))
  go_ret
  exact ⟨rfl, ((HW4.out.alloc _)).bel⟩
end Go.Proofs.Ytagblobimoedcaa.G
