/- Package frames' stacks: one thing that is done. -/
import Derived.Deep.DeepMust
import Derived.Test.YtbbgkelcdooabaaFraK
namespace Go.Proofs.Ytbbgkelcdooabaa.G
open Go.RowKit Go.Proofs.YtbbgkelcdooabaaW.PrintWords Go.Proofs.YtbbgkelcdooabaaW.PrintLast Go.Proofs.YtbbgkelcdooabaaW.PrintMore
set_option linter.unusedVariables false
set_option linter.unusedSimpArgs false
def fDo (s : FS) (o : S44) : FS × Bool :=
  if o.f0 = 0 ∨ o.f0 = 1 then (fPush s o.f6, true)
  else if o.f0 = 2 then ((fPop s).1, (fPop s).2.2)
  else if o.f0 = 3 then ((fTake s o.f3).1, (fTake s o.f3).2.2)
  else if o.f0 = 4 ∨ o.f0 = 5 then ((fEnter s o.f1 o.f2 o.f3 o.f4).1, (fEnter s o.f1 o.f2 o.f3 o.f4).2 == 0)
  else if o.f0 = 6 then fLeave s o.f3
  else if o.f0 = 7 then fCut s o.f3 o.f4
  else if o.f0 = 8 then fGo s o.f2
  else if o.f0 = 9 then fSet s o.f3 o.f5
  else (s, true)
section
variable {w0 w : World} {L : List As} {p : Nat} {s : FS}
set_option maxHeartbeats 4000000 in
theorem frDo (hS : SB w0 w (FO p s :: L)) (o : S44) (A : Option Addr) (c : Nat) (hC : Kd.C (Kd.int .u64) w A o.f6.length o.f6) (hc : o.f6.length ≤ c) (hl : s.v.length + o.f6.length ≤ 1000000) (hM : o.f4 ≤ 1000000) (hN : -9223372036854775808 ≤ o.f3 ∧ o.f3 < 9223372036854775808) :
    Calls Try.prog 20 #[.pointer (some ⟨p, 0, none⟩), .agg #[.int .i64 o.f0, .int .i64 o.f1, .int .i64 o.f2, .int .i64 o.f3, .int .i64 o.f4, .int .u64 o.f5, .slice A o.f6.length c]] w fun e w' => e = .returned (.bool (fDo s o).2) ∧ SB w0 w' (FO p (fDo s o).1 :: L) := by
  obtain ⟨wh, f, pc, n, m, v, l⟩ := o
  dsimp only at hC hc hl hM hN ⊢
  have hbx := (hS.box #[.int .i64 wh, .int .i64 f, .int .i64 pc, .int .i64 n, .int .i64 m, .int .u64 v, .slice A l.length c] 44).swap
  have HS := Aside0.mk hbx
  have HC := Aside0.mk (Kd.C_below hC (below_alloc (Below.refl _ _) (.cells #[.int .i64 wh, .int .i64 f, .int .i64 pc, .int .i64 n, .int .i64 m, .int .u64 v, .slice A l.length c] 44)))
  have hl1 : s.v.length ≤ 1000000 := by omega
  clear hS hbx hC
  by_cases h01 : wh = 0 ∨ wh = 1
  · have e : fDo s ⟨wh, f, pc, n, m, v, l⟩ = (fPush s l, true) := by unfold fDo; rw [if_pos h01]
    rw [e]
    clear e
    rcases h01 with rfl | rfl
    · go_enter Try.func20, Try.ntmps20
      go_wp2_with (go_at_call 11; (with_reducible refine (fraPush HS.out A c l HC.out hc hl).mono ?_); rintro e w1 ⟨rfl, hs⟩; have HS1 := Aside0.mk hs; clear hs)
      go_ret
      exact ⟨rfl, HS1.out.swap.drop⟩
    · go_enter Try.func20, Try.ntmps20
      go_wp2_with (go_at_call 11; (with_reducible refine (fraPush HS.out A c l HC.out hc hl).mono ?_); rintro e w1 ⟨rfl, hs⟩; have HS1 := Aside0.mk hs; clear hs)
      go_ret
      exact ⟨rfl, HS1.out.swap.drop⟩
  by_cases h2 : wh = 2
  · subst h2
    have e : fDo s ⟨2, f, pc, n, m, v, l⟩ = ((fPop s).1, (fPop s).2.2) := rfl
    rw [e]
    clear e
    have hp := Aside0.mk (show fPop s = ((fPop s).1, (fPop s).2.1, (fPop s).2.2) from rfl)
    go_enter Try.func20, Try.ntmps20
    go_wp2_with (go_at_call 22; (with_reducible refine (fraPop HS.out hl1 hp.out).mono ?_); rintro e w1 ⟨rfl, hs⟩; have HS1 := Aside0.mk hs; clear hs)
    go_ret
    exact ⟨rfl, HS1.out.swap.drop⟩
  by_cases h3 : wh = 3
  · subst h3
    have e : fDo s ⟨3, f, pc, n, m, v, l⟩ = ((fTake s n).1, (fTake s n).2.2) := rfl
    rw [e]
    clear e
    have hp := Aside0.mk (show fTake s n = ((fTake s n).1, (fTake s n).2.1, (fTake s n).2.2) from rfl)
    go_enter Try.func20, Try.ntmps20
    go_wp2_with (go_at_call 33; (with_reducible refine (fraTake HS.out hl1 n hp.out).mono ?_); rintro e w1 ⟨v1, rfl, hs⟩; have HS1 := Aside0.mk hs; clear hs)
    go_ret
    exact ⟨rfl, HS1.out.drop.swap.drop⟩
  by_cases h45 : wh = 4 ∨ wh = 5
  · have e : fDo s ⟨wh, f, pc, n, m, v, l⟩ = ((fEnter s f pc n m).1, (fEnter s f pc n m).2 == 0) := by unfold fDo; rw [if_neg h01, if_neg h2, if_neg h3, if_pos h45]
    rw [e]
    clear e h01 h2 h3
    have hp := Aside0.mk (show fEnter s f pc n m = ((fEnter s f pc n m).1, (fEnter s f pc n m).2) from rfl)
    rcases h45 with rfl | rfl
    · go_enter Try.func20, Try.ntmps20
      go_wp2_with (go_at_call 12; (with_reducible refine (fraEnter HS.out hl1 f pc n m hM hp.out).mono ?_); rintro e w1 ⟨rfl, hs⟩; have HS1 := Aside0.mk hs; clear hs)
      go_ret
      exact ⟨rfl, HS1.out.swap.drop⟩
    · go_enter Try.func20, Try.ntmps20
      go_wp2_with (go_at_call 12; (with_reducible refine (fraEnter HS.out hl1 f pc n m hM hp.out).mono ?_); rintro e w1 ⟨rfl, hs⟩; have HS1 := Aside0.mk hs; clear hs)
      go_ret
      exact ⟨rfl, HS1.out.swap.drop⟩
  by_cases h6 : wh = 6
  · subst h6
    have e : fDo s ⟨6, f, pc, n, m, v, l⟩ = ((fLeave s n).1, (fLeave s n).2) := rfl
    rw [e]
    clear e
    have hp := Aside0.mk (show fLeave s n = ((fLeave s n).1, (fLeave s n).2) from rfl)
    go_enter Try.func20, Try.ntmps20
    go_wp2_with (go_at_call 14; (with_reducible refine (fraLeave HS.out hl1 n hp.out).mono ?_); rintro e w1 ⟨rfl, hs⟩; have HS1 := Aside0.mk hs; clear hs)
    go_ret
    exact ⟨rfl, HS1.out.swap.drop⟩
  by_cases h7 : wh = 7
  · subst h7
    have e : fDo s ⟨7, f, pc, n, m, v, l⟩ = ((fCut s n m).1, (fCut s n m).2) := rfl
    rw [e]
    clear e
    have hp := Aside0.mk (show fCut s n m = ((fCut s n m).1, (fCut s n m).2) from rfl)
    go_enter Try.func20, Try.ntmps20
    go_wp2_with (go_at_call 38; (with_reducible refine (fraCut HS.out hl1 n m hN hp.out).mono ?_); rintro e w1 ⟨rfl, hs⟩; have HS1 := Aside0.mk hs; clear hs)
    go_ret
    exact ⟨rfl, HS1.out.swap.drop⟩
  by_cases h8 : wh = 8
  · subst h8
    have e : fDo s ⟨8, f, pc, n, m, v, l⟩ = ((fGo s pc).1, (fGo s pc).2) := rfl
    rw [e]
    clear e
    have hp := Aside0.mk (show fGo s pc = ((fGo s pc).1, (fGo s pc).2) from rfl)
    go_enter Try.func20, Try.ntmps20
    go_wp2_with (go_at_call 39; (with_reducible refine (fraGo HS.out pc hp.out).mono ?_); rintro e w1 ⟨rfl, hs⟩; have HS1 := Aside0.mk hs; clear hs)
    go_ret
    exact ⟨rfl, HS1.out.swap.drop⟩
  by_cases h9 : wh = 9
  · subst h9
    have e : fDo s ⟨9, f, pc, n, m, v, l⟩ = ((fSet s n v).1, (fSet s n v).2) := rfl
    rw [e]
    clear e
    have hp := Aside0.mk (show fSet s n v = ((fSet s n v).1, (fSet s n v).2) from rfl)
    go_enter Try.func20, Try.ntmps20
    go_wp2_with (go_at_call 17; (with_reducible refine (fraSet HS.out n v hp.out).mono ?_); rintro e w1 ⟨rfl, hs⟩; have HS1 := Aside0.mk hs; clear hs)
    go_ret
    exact ⟨rfl, HS1.out.swap.drop⟩
  · have e : fDo s ⟨wh, f, pc, n, m, v, l⟩ = (s, true) := by unfold fDo; rw [if_neg h01, if_neg h2, if_neg h3, if_neg h45, if_neg h6, if_neg h7, if_neg h8, if_neg h9]
    rw [e]
    clear e
    simp only [not_or] at h01 h45
    have b0 : (wh == 0) = false := beq_eq_false_iff_ne.2 h01.1
    have b1 : (wh == 1) = false := beq_eq_false_iff_ne.2 h01.2
    have b2 : (wh == 2) = false := beq_eq_false_iff_ne.2 h2
    have b3 : (wh == 3) = false := beq_eq_false_iff_ne.2 h3
    have b4 : (wh == 4) = false := beq_eq_false_iff_ne.2 h45.1
    have b5 : (wh == 5) = false := beq_eq_false_iff_ne.2 h45.2
    have b6 : (wh == 6) = false := beq_eq_false_iff_ne.2 h6
    have b7 : (wh == 7) = false := beq_eq_false_iff_ne.2 h7
    have b8 : (wh == 8) = false := beq_eq_false_iff_ne.2 h8
    have b9 : (wh == 9) = false := beq_eq_false_iff_ne.2 h9
    clear h01 h2 h3 h45 h6 h7 h8 h9
    go_enter Try.func20, Try.ntmps20
    go_wp2
    go_ret
    exact ⟨rfl, HS.out.swap.drop⟩
end
end Go.Proofs.Ytbbgkelcdooabaa.G
