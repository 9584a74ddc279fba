/- Package host: clones, New, next. -/
import Derived.Deep.DeepMust
import Derived.Test.YtbjglicdamenhaaHstA
import Derived.Test.YtbjglicdamenhaaG0
namespace Go.Proofs.Ytbjglicdamenhaa.G
open Go.RowKit Go.Proofs.YtbjglicdamenhaaW.PrintWords Go.Proofs.YtbjglicdamenhaaW.PrintLast Go.Proofs.YtbjglicdamenhaaW.PrintMore
set_option linter.unusedVariables false
set_option linter.unusedSimpArgs false
theorem info5 : (Try.prog.info? 5).map (fun i => (i.zero, i.size, i.bytes)) = some (some (.int .u8 0), 1, 1) := by kernel_rfl
theorem info31 : (Try.prog.info? 31).map (fun i => (i.zero, i.size, i.bytes)) = some (some (.int .u64 0), 1, 8) := by kernel_rfl
theorem info80 : (Try.prog.info? 80).map (fun i => (i.zero, i.size, i.bytes)) = some (some (.agg #[.int .i64 0, .slice none 0 0, .int .u64 0, .slice none 0 0]), 4, 64) := by kernel_rfl
theorem C_none {α : Type} {d : Kd α} {w : World} {l : List α} (h : Kd.C d w none l.length l) : l = [] := by
  cases l with
  | nil => rfl
  | cons x l =>
    obtain ⟨ad, e, _⟩ := h.2.2 (by simp)
    cases e
theorem cloneB {w0 w : World} {L : List As} (hS : SB w0 w L) (A : Option Addr) (c : Nat) (l : List Int) (hC : Kd.C (Kd.int .u8) w A l.length l) (hc : l.length ≤ c) (hl : l.length ≤ 1000000) :
    Calls Try.prog 31 #[.slice A l.length c] w fun e w' => ∃ v, e = .returned v ∧ SB w0 w' (Row (Kd.int .u8) 5 v l :: L) ∧ Below w.heap.size w w' := by
  have HC := Aside0.mk hC
  have HS := Aside0.mk hS
  have HW := Aside0.mk (SB.start w)
  clear hC hS
  have heq := fun (w : World) (a : Option Addr) (n c : Nat) => Lib.run_eql_slice_nil (P := Try.prog) w 35 5 a n c 0 0 Try.underlying35
  cases A with
  | none =>
    obtain rfl := C_none HC.out
    go_enter Try.func31, Try.ntmps31
    go_wp2
    go_ret
    exact ⟨_, rfl, HS.out.row (Below.refl _ _) (Kd.R_nil _ _ _ _ (fun _ => True)), Below.refl _ _⟩
  | some ad =>
    go_enter Try.func31, Try.ntmps31
    go_wp2_with (first
      | ((with_reducible refine gate_dst (N := 5) rfl ?_); refine Kd.R_lit (Kd.int .u8) (w0 := w) w.heap.size 5 rfl (N := 5) rfl (xs := ([] : List Int)) (inner := []) (ok := fun _ => True) (okp := fun _ => True) (by first | (go_simp; done) | (go_simp; rfl)) (Reps.none _ _) (fun _ hk => hk) trivial (Below.refl _ _) (Nat.le_refl _) (by simp) ?_; intro v5 w4 ho5 hb hg_ hnew_; have HS4 := Aside0.mk (HW.out.row hb ho5); have HC4 := Aside0.mk (Kd.C_below HC.out hb); clear ho5 hb hg_ hnew_)
      | ((with_reducible refine gate_builtin (b := .append) (xs := #[.tmp 5, .tmp 6]) rfl ?_); refine SB.appRows (ys := l) HS4.out rfl (.tmp 5) (.tmp 6) 35 (.int .u8 0) 1 rfl Try.underlying35 info5 rfl (by decide) (by decide) rfl rfl (fun _ _ h => h) HC4.out (by simp; omega) ?_; intro v5 w5 hs5; have HS5 := Aside0.mk hs5; clear hs5))
    go_ret
    exact ⟨_, rfl, HS.out.join (L1 := [_]) HS5.out, HS5.out.bel⟩
theorem cloneU {w0 w : World} {L : List As} (hS : SB w0 w L) (A : Option Addr) (c : Nat) (l : List Int) (hC : Kd.C (Kd.int .u64) w A l.length l) (hc : l.length ≤ c) (hl : l.length ≤ 1000000) :
    Calls Try.prog 33 #[.slice A l.length c] w fun e w' => ∃ v, e = .returned v ∧ SB w0 w' (Row (Kd.int .u64) 31 v l :: L) ∧ Below w.heap.size w w' := by
  have HC := Aside0.mk hC
  have HS := Aside0.mk hS
  have HW := Aside0.mk (SB.start w)
  clear hC hS
  have heq := fun (w : World) (a : Option Addr) (n c : Nat) => Lib.run_eql_slice_nil (P := Try.prog) w 38 31 a n c 0 0 Try.underlying38
  cases A with
  | none =>
    obtain rfl := C_none HC.out
    go_enter Try.func33, Try.ntmps33
    go_wp2
    go_ret
    exact ⟨_, rfl, HS.out.row (Below.refl _ _) (Kd.R_nil _ _ _ _ (fun _ => True)), Below.refl _ _⟩
  | some ad =>
    go_enter Try.func33, Try.ntmps33
    go_wp2_with (first
      | ((with_reducible refine gate_dst (N := 5) rfl ?_); refine Kd.R_lit (Kd.int .u64) (w0 := w) w.heap.size 31 rfl (N := 5) rfl (xs := ([] : List Int)) (inner := []) (ok := fun _ => True) (okp := fun _ => True) (by first | (go_simp; done) | (go_simp; rfl)) (Reps.none _ _) (fun _ hk => hk) trivial (Below.refl _ _) (Nat.le_refl _) (by simp) ?_; intro v5 w4 ho5 hb hg_ hnew_; have HS4 := Aside0.mk (HW.out.row hb ho5); have HC4 := Aside0.mk (Kd.C_below HC.out hb); clear ho5 hb hg_ hnew_)
      | ((with_reducible refine gate_builtin (b := .append) (xs := #[.tmp 5, .tmp 6]) rfl ?_); refine SB.appRows (ys := l) HS4.out rfl (.tmp 5) (.tmp 6) 38 (.int .u64 0) 8 rfl Try.underlying38 info31 rfl (by decide) (by decide) rfl rfl (fun _ _ h => h) HC4.out (by simp; omega) ?_; intro v5 w5 hs5; have HS5 := Aside0.mk hs5; clear hs5))
    go_ret
    exact ⟨_, rfl, HS.out.join (L1 := [_]) HS5.out, HS5.out.bel⟩
theorem cloneR {w0 w : World} {L : List As} (hS : SB w0 w L) (A : Option Addr) (c : Nat) (l : List (List Value)) (hC : Kd.C (Kd.raw 6) w A l.length l) (hc : l.length ≤ c) (hl : l.length ≤ 1000000) :
    Calls Try.prog 30 #[.slice A l.length c] w fun e w' => ∃ v, e = .returned v ∧ SB w0 w' (Row (Kd.raw 6) 86 v l :: L) ∧ Below w.heap.size w w' := by
  have HC := Aside0.mk hC
  have HS := Aside0.mk hS
  have HW := Aside0.mk (SB.start w)
  clear hC hS
  have heq := fun (w : World) (a : Option Addr) (n c : Nat) => Lib.run_eql_slice_nil (P := Try.prog) w 29 86 a n c 0 0 Try.underlying29
  cases A with
  | none =>
    obtain rfl := C_none HC.out
    go_enter Try.func30, Try.ntmps30
    go_wp2
    go_ret
    exact ⟨_, rfl, HS.out.row (Below.refl _ _) (Kd.R_nil _ _ _ _ (fun _ => True)), Below.refl _ _⟩
  | some ad =>
    go_enter Try.func30, Try.ntmps30
    go_wp2_with (first
      | ((with_reducible refine gate_dst (N := 5) rfl ?_); refine Kd.R_lit (Kd.raw 6) (w0 := w) w.heap.size 86 rfl (N := 5) rfl (xs := ([] : List (List Value))) (inner := []) (ok := fun _ => True) (okp := fun _ => True) (by first | (go_simp; done) | (go_simp; rfl)) (Reps.none _ _) (fun _ hk => hk) trivial (Below.refl _ _) (Nat.le_refl _) (by simp) ?_; intro v5 w4 ho5 hb hg_ hnew_; have HS4 := Aside0.mk (HW.out.row hb ho5); have HC4 := Aside0.mk (Kd.C_below HC.out hb); clear ho5 hb hg_ hnew_)
      | ((with_reducible refine gate_builtin (b := .append) (xs := #[.tmp 5, .tmp 6]) rfl ?_); refine SB.appRows (ys := l) HS4.out rfl (.tmp 5) (.tmp 6) 29 (.agg #[.int .u64 0, .bool false, .int .i64 0, .slice none 0 0, .int .i64 0, .int .u64 0]) 64 rfl Try.underlying29 info86 rfl (by decide) (by decide) rfl rfl (fun _ _ h => h) HC4.out (by simp; omega) ?_; intro v5 w5 hs5; have HS5 := Aside0.mk hs5; clear hs5))
    go_ret
    exact ⟨_, rfl, HS.out.join (L1 := [_]) HS5.out, HS5.out.bel⟩
theorem cloneC {w0 w : World} {L : List As} (hS : SB w0 w L) (A : Option Addr) (c : Nat) (l : List (List Value)) (hC : Kd.C (Kd.raw 4) w A l.length l) (hc : l.length ≤ c) (hl : l.length ≤ 1000000) :
    Calls Try.prog 36 #[.slice A l.length c] w fun e w' => ∃ v, e = .returned v ∧ SB w0 w' (Row (Kd.raw 4) 80 v l :: L) ∧ Below w.heap.size w w' := by
  have HC := Aside0.mk hC
  have HS := Aside0.mk hS
  have HW := Aside0.mk (SB.start w)
  clear hC hS
  have heq := fun (w : World) (a : Option Addr) (n c : Nat) => Lib.run_eql_slice_nil (P := Try.prog) w 44 80 a n c 0 0 Try.underlying44
  cases A with
  | none =>
    obtain rfl := C_none HC.out
    go_enter Try.func36, Try.ntmps36
    go_wp2
    go_ret
    exact ⟨_, rfl, HS.out.row (Below.refl _ _) (Kd.R_nil _ _ _ _ (fun _ => True)), Below.refl _ _⟩
  | some ad =>
    go_enter Try.func36, Try.ntmps36
    go_wp2_with (first
      | ((with_reducible refine gate_dst (N := 5) rfl ?_); refine Kd.R_lit (Kd.raw 4) (w0 := w) w.heap.size 80 rfl (N := 5) rfl (xs := ([] : List (List Value))) (inner := []) (ok := fun _ => True) (okp := fun _ => True) (by first | (go_simp; done) | (go_simp; rfl)) (Reps.none _ _) (fun _ hk => hk) trivial (Below.refl _ _) (Nat.le_refl _) (by simp) ?_; intro v5 w4 ho5 hb hg_ hnew_; have HS4 := Aside0.mk (HW.out.row hb ho5); have HC4 := Aside0.mk (Kd.C_below HC.out hb); clear ho5 hb hg_ hnew_)
      | ((with_reducible refine gate_builtin (b := .append) (xs := #[.tmp 5, .tmp 6]) rfl ?_); refine SB.appRows (ys := l) HS4.out rfl (.tmp 5) (.tmp 6) 44 (.agg #[.int .i64 0, .slice none 0 0, .int .u64 0, .slice none 0 0]) 64 rfl Try.underlying44 info80 rfl (by decide) (by decide) rfl rfl (fun _ _ h => h) HC4.out (by simp; omega) ?_; intro v5 w5 hs5; have HS5 := Aside0.mk hs5; clear hs5))
    go_ret
    exact ⟨_, rfl, HS.out.join (L1 := [_]) HS5.out, HS5.out.bel⟩
end Go.Proofs.Ytbjglicdamenhaa.G
