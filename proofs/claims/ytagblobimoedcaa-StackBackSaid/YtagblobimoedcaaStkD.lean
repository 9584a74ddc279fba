/- Package stack: clones and joins. -/
import Derived.Lib.AppendZeros
import Derived.Test.YtagblobimoedcaaStkC
namespace Go.Proofs.Ytagblobimoedcaa.G
open Go.RowKit Go.Proofs.YtagblobimoedcaaW.PrintWords Go.Proofs.YtagblobimoedcaaW.PrintLast Go.Proofs.YtagblobimoedcaaW.PrintMore
set_option linter.unusedVariables false
set_option linter.unusedSimpArgs false
/-- Elements that stand as they were told in a world that was: what they lead to isn't the row's own. -/
def kAt (W : World) : Kd S31 where
  sz := 4
  E := []
  K _ x cs := k31.K W x cs
  M _ _ _ x cs := k31.K W x cs
  K_len h := k31.K_len h
  K_one h := k31.K_one h
  K_below _ h := h
  K_of_M h := h
  M_mono _ h := h
  M_bound h := h
  M_move _ h := h
  M_lower _ h := h
theorem kAt_of {w : World} {A : Option Addr} {n : Nat} {xs : List S31} (h : Kd.C k31 w A n xs) : Kd.C (kAt w) w A n xs := h
theorem kAt_up {W w : World} {A : Option Addr} {n : Nat} {xs : List S31} (h : Kd.C (kAt W) w A n xs) (hb : Below W.heap.size W w) : Kd.C k31 w A n xs :=
  ReadsRow.imp_ (R' := k31.K w) h (Below.refl _ _) (fun _ _ hp => k31.K_below hb hp)
theorem kAt_move {W W' w : World} {A : Option Addr} {n : Nat} {xs : List S31} (h : Kd.C (kAt W) w A n xs) (hb : Below W.heap.size W W') : Kd.C (kAt W') w A n xs :=
  ReadsRow.imp_ (R' := (kAt W').K w) h (Below.refl _ _) (fun _ _ hp => k31.K_below hb hp)
theorem kAt_row {W W' : World} {e base : Nat} {ok : Nat → Prop} {w : World} {v : Value} {xs : List S31} (hb : Below W.heap.size W W') (h : (kAt W).R e w base ok v xs) : (kAt W').R e w base ok v xs :=
  Kd.R_imp (d := kAt W) (d' := kAt W') rfl (fun _ _ _ _ _ hp => k31.K_below hb hp) h
set_option maxHeartbeats 4000000 in
set_option maxRecDepth 100000 in
theorem cloneC (W0 : World) (A : Option Addr) (c : Nat) (l : List S31) (w : World) (hC : Kd.C (kAt W0) w A l.length l) (hc : l.length ≤ c) (hl : l.length ≤ 1000000000) :
    Calls Try.prog 38 #[.slice A l.length c] w fun e w' => ∃ v, e = .returned v ∧ (kAt W0).R 31 w' w.heap.size (fun _ => True) v l ∧ Below w.heap.size w w' := by
  have HC := Aside0.mk hC
  have HB := Aside0.mk (Below.refl w.heap.size w)
  clear hC
  have heq := fun (w : World) (a : Option Addr) (n c : Nat) => Lib.run_eql_slice_nil (P := Try.prog) w 26 31 a n c 0 0 Try.underlying26
  cases A with
  | none =>
    have h0 : l = [] := by
      cases l with
      | nil => rfl
      | cons x l =>
        obtain ⟨ad, e, _⟩ := HC.out.2.2 (by simp)
        simp at e
    subst h0
    go_enter Try.func38, Try.ntmps38
    go_wp2
    go_ret
    exact ⟨_, rfl, Kd.R_nil _ _ _ _ _, Below.refl _ _⟩
  | some ad =>
    have hi31 := info31
    go_enter Try.func38, Try.ntmps38
    go_wp2_with (first
      | ((with_reducible refine gate_dst (N := 5) rfl ?_); refine Kd.R_lit (kAt W0) (w0 := w) w.heap.size 31 rfl (N := 5) rfl (xs := ([] : List S31)) (inner := []) (ok := fun _ => True) (okp := fun _ => True) (by first | (go_simp; done) | (go_simp; rfl)) (Reps.none _ _) (fun _ hk => hk) trivial (Below.refl _ _) (Nat.le_refl _) (by simp) ?_; intro v5 w4 ho5 hb hg_ hnew_; have HO4 := Aside0.mk ho5; have HB4 := Aside0.mk hb; have HC4 := Aside0.mk (Kd.C_below HC.out hb); clear ho5 hb hg_ hnew_)
      | ((with_reducible refine gate_builtin (b := .append) (xs := #[.tmp 5, .tmp 6]) rfl ?_); at_builtin; refine Kd.R_append_rows (kAt W0) (w0 := w) w.heap.size rfl (.tmp 5) (.tmp 6) 26 31 _ _ rfl Try.underlying26 hi31 rfl (show 0 < 4 by decide) (by decide) v5 ([] : List S31) l _ _ _ (fun _ => True) (fun _ => False) rfl rfl HO4.out HC4.out (fun _ _ h => h) (fun _ h => h.elim) (fun _ _ => trivial) HB4.out HB4.out.size (by simp; omega) ?_; intro v5b w5 ho hb hg hat; have HO5 := Aside0.mk ho; have HB5 := Aside0.mk hb; clear ho hb hg hat))
    go_ret
    exact ⟨_, rfl, HO5.out, HB5.out⟩
/-- slices.Grow of nothing. -/
theorem growNil (n : Nat) (w : World) (hn : n ≤ 2000000000) :
    Calls Try.prog 47 #[.slice none 0 0, .int .i64 n] w fun e w' => ∃ v, e = .returned v ∧ (Kd.int .u8).R 5 w' w.heap.size (fun _ => True) v [] ∧ Below w.heap.size w w' := by
  have hw : IntKind.i64.wrap (n : Int) = (n : Int) := by rw [IntKind.wrap_i64]; omega
  have d1 : decide ((n : Int) < 0) = false := decide_eq_false (by omega)
  cases n with
  | zero =>
    go_enter Try.func47, Try.ntmps47
    go_wp2
    go_ret
    exact ⟨_, rfl, Kd.R_nil _ _ _ _ _, Below.refl _ _⟩
  | succ n =>
    have d2 : decide ((0 : Int) < ((n + 1 : Nat) : Int)) = true := decide_eq_true (by omega)
    obtain ⟨i0, hi0, hz0, hs0, hb0⟩ := info_parts info5
    have hcut0 := fun W => cut25 none 0 0 0 (Nat.le_refl _) (Nat.le_refl _) W
    have hcut := fun A c W => cut25 A (n + 1) (n + 1 + c) 0 (Nat.zero_le _) (by omega) W
    have hrz := Lib.run_append_nil_zeros (P := Try.prog) w 25 3 25 5 i0 (.int .u8 0) .i64 .i64 Try.underlying25 Try.underlying3 hi0 hz0 (n + 1) (by omega) (by omega) (by omega) (by rw [hb0]; omega)
    go_enter Try.func47, Try.ntmps47
    go_wp2_with ((with_reducible refine gate_builtin (b := .append) (xs := #[.tmp 20, .tmp 21]) rfl ?_); at_builtin; refine Lib.wpList_append_run w rfl (.tmp 20) (.tmp 21) 25 3 rfl _ _ rfl rfl _ _ hrz ?_)
    go_ret
    have h1 := grownCap_ge w (n + 1) 0 5
    have h2 := grownCap_le_maxLen w (n + 1) 0 5 (by unfold maxLen; omega)
    refine ⟨_, rfl, Kd.R_drew ?_, below_drew (below_alloc (Below.refl _ _) _)⟩
    exact Kd.R_of_own (h1 := fun _ => rfl) ⟨rfl, .inr ⟨w.heap.size, _, _, rfl, Nat.le_refl _, heap_alloc_new w _, Nat.zero_le _, h2, by simp [size_zeroCells]; omega, by simp [encs]⟩⟩ (fun k hk => trivial)
set_option maxHeartbeats 8000000 in
set_option maxRecDepth 100000 in
/-- slices.Concat of two rows of bytes. -/
theorem concat2 (g : Nat) (A B : Option Addr) (c d : Nat) (l m : List Int) (w : World) (hg : w.heap[g]? = some (.cells #[.slice A l.length c, .slice B m.length d] 25 (0, 0)))
    (hA : Kd.C (Kd.int .u8) w A l.length l) (hB : Kd.C (Kd.int .u8) w B m.length m) (hl : l.length ≤ 500000000) (hm : m.length ≤ 500000000) :
    Calls Try.prog 37 #[.slice (some ⟨g, 0, none⟩) 2 2] w fun e w' => ∃ v, e = .returned v ∧ (Kd.int .u8).R 5 w' w.heap.size (fun _ => True) v (l ++ m) ∧ Below w.heap.size w w' := by
  have hlt := blk_lt hg
  have hc0 : w.cell? ⟨g, 0, none⟩ = some (.slice A l.length c) := (blk_cell hg 0).trans rfl
  have hc1 : w.cell? ⟨g, 1, none⟩ = some (.slice B m.length d) := (blk_cell hg 1).trans rfl
  have HA := Aside0.mk hA
  have HB := Aside0.mk hB
  have hw1 : IntKind.i64.wrap (l.length : Int) = (l.length : Int) := by rw [IntKind.wrap_i64]; omega
  have hw2 : IntKind.i64.wrap ((l.length : Int) + (m.length : Int)) = ((l.length + m.length : Nat) : Int) := by rw [IntKind.wrap_i64]; omega
  have d1 : decide ((l.length : Int) < 0) = false := decide_eq_false (by omega)
  have d2 : decide ((((l.length + m.length : Nat) : Int)) < 0) = false := decide_eq_false (by omega)
  have HG := growNil (l.length + m.length) w (by omega)
  clear hA hB
  go_enter Try.func37, Try.ntmps37
  go_wp2
  refine wp_loop_rounds 3 ?_
  rw [rounds_succ]
  go_wp2
  rw [rounds_succ]
  go_wp2
  rw [rounds_succ]
  go_wp2_with (go_at_call 47; refine HG.mono ?_; rintro e w1 ⟨v, rfl, hr, hb⟩; have HR := Aside0.mk hr; have HBB := Aside0.mk hb; have hq0 := (hb.cell (p := ⟨g, 0, none⟩) hlt).trans hc0; have hq1 := (hb.cell (p := ⟨g, 1, none⟩) hlt).trans hc1; clear hr hb)
  refine wp_loop_rounds 3 ?_
  rw [rounds_succ]
  go_wp2_with ((with_reducible refine gate_builtin (b := .append) (xs := #[.tmp 31, .tmp 32]) rfl ?_); at_builtin; refine Kd.R_append_rows (Kd.int .u8) (w0 := w) w.heap.size rfl (.tmp 31) (.tmp 32) 25 5 (.int .u8 0) 1 rfl Try.underlying25 info5 rfl (by decide) (by decide) v ([] : List Int) l _ _ _ (fun _ => True) (fun _ => False) rfl rfl HR.out (Kd.C_below HA.out HBB.out) (fun _ _ h => h) (fun _ h => h.elim) (fun _ _ => trivial) HBB.out HBB.out.size (by simp; omega) ?_; intro v2 w2 ho hb hg hat; have HR2 := Aside0.mk ho; have HB2 := Aside0.mk hb; have hq2 := (hb.cell (p := ⟨g, 1, none⟩) hlt).trans hc1; clear ho hb hg hat)
  rw [rounds_succ]
  go_wp2_with ((with_reducible refine gate_builtin (b := .append) (xs := #[.tmp 31, .tmp 32]) rfl ?_); at_builtin; refine Kd.R_append_rows (Kd.int .u8) (w0 := w) w.heap.size rfl (.tmp 31) (.tmp 32) 25 5 (.int .u8 0) 1 rfl Try.underlying25 info5 rfl (by decide) (by decide) v2 ([] ++ l) m _ _ _ (fun _ => True) (fun _ => False) rfl rfl HR2.out (Kd.C_below HB.out HB2.out) (fun _ _ h => h) (fun _ h => h.elim) (fun _ _ => trivial) HB2.out HB2.out.size (by simp; omega) ?_; intro v3 w3 ho hb hg hat; have HR3 := Aside0.mk ho; have HB3 := Aside0.mk hb; have hq3 := (hb.cell (p := ⟨g, 1, none⟩) hlt).trans hc1; clear ho hb hg hat)
  rw [rounds_succ]
  go_wp2
  go_ret
  exact ⟨_, rfl, HR3.out, HB3.out⟩
end Go.Proofs.Ytagblobimoedcaa.G
