/- Package frames' stacks: the document's example. -/
import Derived.Deep.DeepMust
import Derived.Test.YtbbgkelcdooabaaFraJ
namespace Go.Proofs.Ytbbgkelcdooabaa.G
open Go.RowKit Go.Proofs.YtbbgkelcdooabaaW.PrintWords Go.Proofs.YtbbgkelcdooabaaW.PrintLast Go.Proofs.YtbbgkelcdooabaaW.PrintMore
set_option linter.unusedVariables false
set_option linter.unusedSimpArgs false
theorem lit_row {w0 w : World} {L : List As} (hS : SB w0 w L) (xs : List Int) (hl : xs.length ≤ 1000000) :
    SB w0 (w.alloc (.cells (encs (Value.int .u64) xs).toArray 35)) L ∧ Kd.C (Kd.int .u64) (w.alloc (.cells (encs (Value.int .u64) xs).toArray 35)) (some ⟨w.heap.size, 0, none⟩) xs.length xs := by
  have h := hS.lit (k := .u64) (e := 35) xs hl
  obtain ⟨A, c, e, _, hC⟩ := h.reads
  injection e with e1 e2 e3
  subst e1
  exact ⟨h.drop, hC⟩
theorem push12 {w w1 : World} {p : Nat} (hS : SB w w1 [FO p ⟨[], [], 2⟩]) :
    Calls Try.prog 11 #[.pointer (some ⟨p, 0, none⟩), .slice (some ⟨w1.heap.size, 0, none⟩) 2 2] (w1.alloc (.cells #[.int .u64 1, .int .u64 2] 35)) fun e w' => e = .returned (.tuple #[]) ∧ SB w w' [FO p ⟨[1, 2], [], 2⟩] :=
  fraPush (s := ⟨[], [], 2⟩) (lit_row hS [1, 2] (by decide)).1 (some ⟨w1.heap.size, 0, none⟩) 2 [1, 2] (lit_row hS [1, 2] (by decide)).2 (by decide) (by decide)
theorem push5 {w w1 : World} {p : Nat} (hS : SB w w1 [FO p ⟨[], [⟨7, 3, [1, 2, 0], 0⟩], 2⟩]) :
    Calls Try.prog 11 #[.pointer (some ⟨p, 0, none⟩), .slice (some ⟨w1.heap.size, 0, none⟩) 1 1] (w1.alloc (.cells #[.int .u64 5] 35)) fun e w' => e = .returned (.tuple #[]) ∧ SB w w' [FO p ⟨[5], [⟨7, 3, [1, 2, 0], 0⟩], 2⟩] :=
  fraPush (s := ⟨[], [⟨7, 3, [1, 2, 0], 0⟩], 2⟩) (lit_row hS [5] (by decide)).1 (some ⟨w1.heap.size, 0, none⟩) 1 [5] (lit_row hS [5] (by decide)).2 (by decide) (by decide)
theorem new2 (w : World) : Calls Try.prog 10 #[.int .i64 2] w fun e w' => ∃ p, e = .returned (.pointer (some ⟨p, 0, none⟩)) ∧ SB w w' [FO p ⟨[], [], 2⟩] :=
  (frNewS (SB.start w) 2).mono (fun e w' h => ⟨_, h.1, h.2⟩)
theorem top5 {w w1 : World} {p : Nat} (hS : SB w w1 [FO p ⟨[5], [⟨7, 3, [1, 2, 0], 0⟩], 2⟩]) :
    Calls Try.prog 27 #[.pointer (some ⟨p, 0, none⟩)] w1 fun e w' => ∃ A c, e = .returned (.tuple #[.agg #[.int .i64 7, .int .i64 3, .slice A 3 c, .int .i64 0], .bool true]) ∧ SB w w' [FO p ⟨[5], [⟨7, 3, [1, 2, 0], 0⟩], 2⟩] :=
  (frTopOk (s := ⟨[5], [⟨7, 3, [1, 2, 0], 0⟩], 2⟩) (fr0 := []) (x := ⟨7, 3, [1, 2, 0], 0⟩) hS rfl (by decide)).mono (fun e w' ⟨v, h1, h2⟩ => by
    obtain ⟨A, c, rfl, _, _⟩ := h2.reads
    exact ⟨A, c, h1, h2.drop⟩)
theorem awake (w : World) : Calls Try.prog 9 #[] w fun e w' => e = .returned (.bool true) ∧ Below w.heap.size w w' := by
  have e2 : fEnter ⟨[1, 2], [], 2⟩ 7 3 2 1 = (⟨[], [⟨7, 3, [1, 2, 0], 0⟩], 2⟩, 0) := rfl
  have e4 : fLeave ⟨[5], [⟨7, 3, [1, 2, 0], 0⟩], 2⟩ 1 = (⟨[5], [], 2⟩, true) := rfl
  have e5 : fPop ⟨[5], [], 2⟩ = (⟨[], [], 2⟩, 5, true) := rfl
  go_enter Try.func9, Try.ntmps9
  go_wp2_with (first
    | (go_at_call 10; (with_reducible refine (new2 w).mono ?_); rintro e w1 ⟨p, rfl, hs⟩; have HS1 := Aside0.mk hs; clear hs)
    | (go_at_call 11; (with_reducible refine (push12 HS1.out).mono ?_); rintro e w2 ⟨rfl, hs⟩; have HS2 := Aside0.mk hs; clear hs)
    | (go_at_call 12; (with_reducible refine (fraEnter HS2.out (by decide) 7 3 2 1 (by decide) e2).mono ?_); rintro e w3 ⟨rfl, hs⟩; have HS3 := Aside0.mk hs; clear hs)
    | (go_at_call 11; (with_reducible refine (push5 HS3.out).mono ?_); rintro e w4 ⟨rfl, hs⟩; have HS4 := Aside0.mk hs; clear hs)
    | (go_at_call 27; (with_reducible refine (top5 HS4.out).mono ?_); rintro e w5 ⟨A5, c5, rfl, hs⟩; have HS5 := Aside0.mk (hs.box #[.int .i64 7, .int .i64 3, .slice A5 3 c5, .int .i64 0] 58); clear hs)
    | (go_at_call 14; (with_reducible refine (fraLeave HS5.out.swap (by decide) 1 e4).mono ?_); rintro e w6 ⟨rfl, hs⟩; have HS6 := Aside0.mk hs; clear hs)
    | (go_at_call 22; (with_reducible refine (fraPop HS6.out (by decide) e5).mono ?_); rintro e w7 ⟨rfl, hs⟩; have hb := hs.drop.blk; have q0 := blk_cell hb 0; have q2 := blk_cell hb 2; have HS7 := Aside0.mk hs; clear hs hb)
    | (go_at_call 13; (with_reducible refine (fraDepth HS7.out).mono ?_); rintro e w8 ⟨rfl, hs⟩; have HS8 := Aside0.mk hs; clear hs))
  go_ret
  exact ⟨rfl, HS8.out.bel⟩
end Go.Proofs.Ytbbgkelcdooabaa.G
