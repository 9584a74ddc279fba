/- Package frames' stacks: values. -/
import Derived.Deep.DeepMust
import Derived.Test.YtbbgkelcdooabaaFraB
namespace Go.Proofs.Ytbbgkelcdooabaa.G
open Go.RowKit Go.Proofs.YtbbgkelcdooabaaW.PrintWords Go.Proofs.YtbbgkelcdooabaaW.PrintLast Go.Proofs.YtbbgkelcdooabaaW.PrintMore
attribute [local go_sem] max2_int min2_int max_two min_two max_three min_three max_four min_four   -- for this text's walks alone
set_option linter.unusedVariables false
set_option linter.unusedSimpArgs false
/-- A copy of a row of numbers. -/
theorem cloneU {w0 w : World} {L : List As} (hS : SB w0 w L) (A : Option Addr) (c : Nat) (l : List Int) (hC : Kd.C (Kd.int .u64) w A l.length l) (hc : l.length ≤ c) (hl : l.length ≤ 1000000) :
    Calls Try.prog 36 #[.slice A l.length c] w fun e w' => ∃ v, e = .returned v ∧ SB w0 w' (Row (Kd.int .u64) 35 v l :: L) := by
  have HC := Aside0.mk hC
  have HS := Aside0.mk hS
  clear hC hS
  have heq := fun (w : World) (a : Option Addr) (n c : Nat) => Lib.run_eql_slice_nil (P := Try.prog) w 22 35 a n c 0 0 Try.underlying22
  cases A with
  | none =>
    have h0 : l = [] := by
      cases l with
      | nil => rfl
      | cons x l =>
        obtain ⟨ad, e, _⟩ := HC.out.2.2 (by simp)
        simp at e
    subst h0
    go_enter Try.func36, Try.ntmps36
    go_wp2
    go_ret
    exact ⟨_, rfl, HS.out.row (Below.refl _ _) (Kd.R_nil _ _ _ _ (fun _ => True))⟩
  | some ad =>
    go_enter Try.func36, Try.ntmps36
    go_wp2_with (first
      | ((with_reducible refine gate_dst (N := 5) rfl ?_); refine Kd.R_lit (Kd.int .u64) (w0 := w) w.heap.size 35 rfl (N := 5) rfl (xs := ([] : List Int)) (inner := []) (ok := fun _ => True) (okp := fun _ => True) (by first | (go_simp; done) | (go_simp; rfl)) (Reps.none _ _) (fun _ hk => hk) trivial (Below.refl _ _) (Nat.le_refl _) (by simp) ?_; intro v5 w4 ho5 hb hg_ hnew_; have HS4 := Aside0.mk (HS.out.row hb ho5); have HC4 := Aside0.mk (Kd.C_below HC.out hb); clear ho5 hb hg_ hnew_)
      | ((with_reducible refine gate_builtin (b := .append) (xs := #[.tmp 5, .tmp 6]) rfl ?_); refine SB.appRows (ys := l) HS4.out rfl (.tmp 5) (.tmp 6) 22 (.int .u64 0) 8 rfl Try.underlying22 info35 rfl (by decide) (by decide) rfl rfl (fun _ _ h => h) HC4.out (by simp; omega) ?_; intro v5 w5 hs5; have HS5 := Aside0.mk hs5; clear hs5))
    go_ret
    exact ⟨_, rfl, HS5.out⟩
theorem SB.set1 {w0 w : World} {L : List As} {p t : Nat} {cs : Array Value} (h : SB w0 w (Box p cs t :: L)) (i : Nat) (v : Value) : SB w0 (w.setCell ⟨p, i, none⟩ v) (Box p (cs.setIfInBounds i v) t :: L) := by
  obtain ⟨F, hF, hge, K⟩ := h.frame
  have hp : F p := (hF.2 p).2 rfl
  exact K _ (Box p (cs.setIfInBounds i v) t) F ⟨blk_set hF.1 i v, hF.2⟩ ((Fr.refl w F).setCell (p := ⟨p, i, none⟩) (.inl hp) v) (fun k hk => .inl hk)
theorem SB.blk {w0 w : World} {L : List As} {p t : Nat} {cs : Array Value} (h : SB w0 w (Box p cs t :: L)) : w.heap[p]? = some (.cells cs t (0, 0)) := by
  obtain ⟨F, hF, _⟩ := h.head
  exact hF.1
theorem fsC_set0 (v v' : Value) (z : List (Fm × Value)) (r : Int) : (fsC v z r).setIfInBounds 0 v' = fsC v' z r := by
  refine fsC_ext (by simp [fsC]) (fun i hi => ?_)
  rw [Array.getElem?_setIfInBounds, fsC_size]
  by_cases h0 : i = 0
  · subst h0; rfl
  · rw [if_neg (by omega), fsC_at _ _ _ _ hi]
    unfold cellAt
    rw [if_neg h0, if_neg h0]
/-- Push. -/
theorem frPush {w0 w : World} {L : List As} {p : Nat} {s : FS} (hS : SB w0 w (FO p s :: L)) (A : Option Addr) (c : Nat) (l : List Int) (hC : Kd.C (Kd.int .u64) w A l.length l) (hc : l.length ≤ c) (hl : s.v.length + l.length ≤ 1000000) :
    Calls Try.prog 11 #[.pointer (some ⟨p, 0, none⟩), .slice A l.length c] w fun e w' => e = .returned (.tuple #[]) ∧ SB w0 w' (FO p { s with v := s.v ++ l } :: L) := by
  obtain ⟨v, z, hz, hk, h1⟩ := hS.open_
  have hb := h1.blk
  have h2 := h1.swap
  obtain ⟨A0, c0, rfl, hc0, _⟩ := h2.reads
  have hcell : w.cell? ⟨p, 0, none⟩ = some (.slice A0 s.v.length c0) := fsC_b _ _ _ hb 0 (by omega)
  have HS := Aside0.mk h2
  have HC := Aside0.mk hC
  clear h1 h2 hb hS hC
  go_enter Try.func11, Try.ntmps11
  go_wp2_with ((with_reducible refine gate_builtin (b := .append) (xs := #[.tmp 10, .tmp 11]) rfl ?_); at_builtin; go_must ((refine SB.appRows (ys := l) HS.out rfl (.tmp 10) (.tmp 11) 22 (.int .u64 0) 8 rfl Try.underlying22 info35 rfl (by decide) (by decide) rfl rfl (fun _ _ h => h) HC.out (by omega) ?_); intro v5 w5 hs5; obtain ⟨A5, c5, rfl, _, _⟩ := hs5.reads; have hb5 := hs5.swap.blk; have hc5 : w5.cell? ⟨p, 0, none⟩ = some (.slice A0 s.v.length c0) := fsC_b _ _ _ hb5 0 (by omega); have hf5 := blk_frozen hb5 0; have HS5 := Aside0.mk hs5; clear hs5 hb5))
  go_end0
  have h6 := (HS5.out.swap).set1 0 (.slice A5 (s.v ++ l).length c5)
  rw [fsC_set0] at h6
  have h7 := SB.close_ (s := { s with v := s.v ++ l }) hz ⟨hk.room0, hk.room, hk.len, hk.base⟩ h6
  simp only [List.length_append] at h7
  exact ⟨rfl, h7⟩
theorem frPushNil (v : Value) (w : World) : Calls Try.prog 11 #[.pointer none, v] w fun e w' => e = .returned (.tuple #[]) ∧ Drawn0 w w' := by
  go_enter Try.func11, Try.ntmps11
  go_wp2
  go_end0
  exact ⟨rfl, by repeat (first | exact Drawn0.refl _ | apply Drawn0.step)⟩
/-- Vals. -/
theorem frVals {w0 w : World} {L : List As} {p : Nat} {s : FS} (hS : SB w0 w (FO p s :: L)) (hl : s.v.length ≤ 1000000) :
    Calls Try.prog 16 #[.pointer (some ⟨p, 0, none⟩)] w fun e w' => ∃ v, e = .returned v ∧ SB w0 w' (Row (Kd.int .u64) 35 v s.v :: FO p s :: L) := by
  obtain ⟨v, z, hz, hk, h1⟩ := hS.open_
  have hb := h1.blk
  obtain ⟨A0, c0, rfl, hc0, hC0⟩ := h1.swap.reads
  have hcell : w.cell? ⟨p, 0, none⟩ = some (.slice A0 s.v.length c0) := fsC_b _ _ _ hb 0 (by omega)
  have HS := Aside0.mk hS
  have HC := Aside0.mk hC0
  clear h1 hb hS hC0
  go_enter Try.func16, Try.ntmps16
  go_wp2_with (go_at_call 36; (with_reducible refine (cloneU HS.out A0 c0 s.v HC.out hc0 hl).mono ?_); rintro e w1 ⟨v1, rfl, hs⟩; have HS1 := Aside0.mk hs; clear hs)
  go_ret
  exact ⟨_, rfl, HS1.out⟩
/-- So many own values. -/
def hasN (s : FS) (n : Int) : Prop := 0 ≤ n ∧ n ≤ (s.v.length : Int) - baseOf s.fr
instance (s : FS) (n : Int) : Decidable (hasN s n) := inferInstanceAs (Decidable (_ ∧ _))
theorem baseOf_ok {s : FS} (hk : s.ok) : 0 ≤ baseOf s.fr ∧ baseOf s.fr ≤ 1000000000000 := by
  unfold baseOf
  cases h : s.fr.getLast? with
  | none => simp
  | some x => exact hk.base x (List.mem_of_getLast? h)
theorem frHasS {w0 w : World} {L : List As} {p : Nat} {s : FS} (hS : SB w0 w (FO p s :: L)) (hl : s.v.length ≤ 1000000) (n : Int) :
    Calls Try.prog 32 #[.pointer (some ⟨p, 0, none⟩), .int .i64 n] w fun e w' => e = .returned (.bool (decide (hasN s n))) ∧ Drawn0 w w' := by
  obtain ⟨v, z, hz, hk, h1⟩ := hS.open_
  have hb := h1.blk
  obtain ⟨A0, c0, rfl, hc0, hC0⟩ := h1.swap.reads
  have hcell : w.cell? ⟨p, 0, none⟩ = some (.slice A0 s.v.length c0) := fsC_b _ _ _ hb 0 (by omega)
  have hzl : z.length ≤ 64 := by have := congrArg List.length hz; have := hk.len; have := hk.room; simp at *; omega
  have ha := atB hb hzl
  rw [hz] at ha
  exact frHas p z.length (baseOf s.fr) A0 s.v.length c0 n w (by omega) (by have := baseOf_ok hk; omega) hcell ha
theorem cut22 (A : Option Addr) (n c t : Nat) (h : t ≤ n) (hc : n ≤ c) (W : World) : (Instr.slice 22 (.slice A n c) none (some (.int .i64 (t : Int))) none).run Try.prog W = .ok (.slice A t c) W := by
  obtain ⟨i0, hi0, _, hsz, _⟩ := info_parts info35
  have hel : Try.prog.elem 22 = 35 := by simp [Program.elem, Try.underlying22]
  have hu : Try.prog.underlying 22 = some (.slice (Try.prog.elem 22)) := by rw [hel]; exact Try.underlying22
  have ha : (A.map fun x => x.add 0) = A := by cases A <;> simp [Addr.add]
  rw [run_slice_h W 22 A n c hu .i64 (t : Int) (by omega) (by omega), hel]
  simp [sizeOf, typeInfo, hi0, hsz, sliced, Result.andThen, ha]
theorem low22 (A : Option Addr) (n c t : Nat) (h : t ≤ n) (hc : n ≤ c) (W : World) : (Instr.slice 22 (.slice A n c) (some (.int .i64 (t : Int))) none none).run Try.prog W = .ok (.slice (if c = t then A else A.map (·.add (t * 1))) (n - t) (c - t)) W := by
  obtain ⟨i0, hi0, _, hsz, _⟩ := info_parts info35
  have hel : Try.prog.elem 22 = 35 := by simp [Program.elem, Try.underlying22]
  have hu : Try.prog.underlying 22 = some (.slice (Try.prog.elem 22)) := by rw [hel]; exact Try.underlying22
  rw [run_slice_l W 22 A n c hu .i64 (t : Int) (by omega) (by omega), hel]
  simp [sizeOf, typeInfo, hi0, hsz, sliced, Result.andThen]
theorem frTakeNo {w0 w : World} {L : List As} {p : Nat} {s : FS} (hS : SB w0 w (FO p s :: L)) (hl : s.v.length ≤ 1000000) (n : Int) (hn : ¬ hasN s n) :
    Calls Try.prog 33 #[.pointer (some ⟨p, 0, none⟩), .int .i64 n] w fun e w' => e = .returned (.tuple #[.slice none 0 0, .bool false]) ∧ SB w0 w' (FO p s :: L) := by
  have hc := frHasS hS hl n
  rw [decide_eq_false hn] at hc
  have HS := Aside0.mk hS
  have HH := Aside0.mk hc
  clear hS hc hn
  go_enter Try.func33, Try.ntmps33
  go_wp2_with (go_at_call 32; (with_reducible refine (HH.out).mono ?_); rintro e w1 ⟨rfl, ⟨nd, rfl⟩⟩)
  go_ret2
  exact ⟨rfl, HS.out.drewN _⟩
theorem SB.rowTake {α : Type} {d : Kd α} {e : Nat} {A : Option Addr} {n c : Nat} {xs : List α} {w0 w : World} {L : List As} (h : SB w0 w (Row d e (.slice A n c) xs :: L)) (m : Nat) (hm : m ≤ xs.length) : SB w0 w (Row d e (.slice A m c) (xs.take m) :: L) := by
  obtain ⟨F, hF, hge, K⟩ := h.frame
  exact K _ (Row d e (.slice A m c) (xs.take m)) F ⟨Kd.R_take hF.1 hm, hF.2⟩ (Fr.refl _ _) (fun k hk => .inl hk)
theorem frTakeOk {w0 w : World} {L : List As} {p : Nat} {s : FS} (hS : SB w0 w (FO p s :: L)) (hl : s.v.length ≤ 1000000) (n : Nat) (hn : hasN s n) :
    Calls Try.prog 33 #[.pointer (some ⟨p, 0, none⟩), .int .i64 (n : Int)] w fun e w' => ∃ v, e = .returned (.tuple #[v, .bool true]) ∧ SB w0 w' (Row (Kd.int .u64) 35 v (s.v.drop (s.v.length - n)) :: FO p { s with v := s.v.take (s.v.length - n) } :: L) := by
  have hc := frHasS hS hl n
  rw [decide_eq_true hn] at hc
  have HH := Aside0.mk hc
  obtain ⟨v, z, hz, hk, h1⟩ := hS.open_
  have hnl : n ≤ s.v.length := by have := (baseOf_ok hk).1; have := hn.2; omega
  obtain ⟨k, hkk⟩ : ∃ k, s.v.length - n = k := ⟨_, rfl⟩
  rw [hkk]
  have hw : IntKind.i64.wrap ((s.v.length : Int) - (n : Int)) = (k : Int) := by rw [IntKind.wrap_i64]; omega
  have hb := h1.blk
  obtain ⟨A0, c0, rfl, hc0, hC0⟩ := h1.swap.reads
  have hcell : w.cell? ⟨p, 0, none⟩ = some (.slice A0 s.v.length c0) := fsC_b _ _ _ hb 0 (by omega)
  have hcut := cut22 A0 s.v.length c0 k (by omega) hc0
  have hlow := low22 A0 s.v.length c0 k (by omega) hc0
  have HS := Aside0.mk h1
  have HC := Aside0.mk (Kd.C_drop hC0 (m := k) (by omega) hc0)
  have hdl : (s.v.drop k).length = s.v.length - k := by simp
  obtain ⟨Al, hAl⟩ : ∃ Al, (if c0 = k then A0 else A0.map fun x => x.add (k * 1)) = Al := ⟨_, rfl⟩
  rw [hAl, ← hdl] at hlow
  have HC := Aside0.mk (show Kd.C (Kd.int .u64) w Al (s.v.drop k).length (s.v.drop k) from hAl ▸ HC.out)
  have hdc : (s.v.drop k).length ≤ c0 - k := by omega
  have hdm : (s.v.drop k).length ≤ 1000000 := by omega
  obtain ⟨xs, hxs⟩ : ∃ xs, s.v.drop k = xs := ⟨_, rfl⟩
  rw [hxs] at hlow HC hdc hdm ⊢
  obtain ⟨cl, hcl⟩ : ∃ cl, c0 - k = cl := ⟨_, rfl⟩
  rw [hcl] at hlow hdc
  clear h1 hb hS hC0 hn hc hdl hAl hxs hcl
  go_enter Try.func33, Try.ntmps33
  go_wp2_with (first
    | (go_at_call 32; (with_reducible refine (HH.out).mono ?_); rintro e w1 ⟨rfl, ⟨nd, rfl⟩⟩)
    | (go_at_call 36; go_must ((with_reducible refine (cloneU (HS.out.drewN nd) Al cl xs (Kd.C_below HC.out (pw_below_drewN (Below.refl _ _) _)) hdc hdm).mono ?_)); rintro e w3 ⟨v3, rfl, hs⟩; obtain ⟨A3, c3, rfl, _, _⟩ := hs.reads; have hb3 := hs.swap.blk; have hc3 : w3.cell? ⟨p, 0, none⟩ = some (.slice A0 s.v.length c0) := fsC_b _ _ _ hb3 0 (by omega); have hf3 := blk_frozen hb3 0; have HS3 := Aside0.mk hs; clear hs hb3))
  go_ret2
  refine ⟨_, rfl, ?_⟩
  have h6 := (HS3.out.swap).set1 0 (.slice A0 k c0)
  rw [fsC_set0] at h6
  have h7 := h6.perm (L' := Row (Kd.int .u64) 35 (.slice A0 s.v.length c0) s.v :: Box p (fsC (.slice A0 k c0) z s.room) 72 :: Row (Kd.int .u64) 35 (.slice A3 xs.length c3) xs :: Sep (rowsOf z) :: L) (((List.Perm.swap _ _ _).cons _).trans (List.Perm.swap _ _ _))
  have h8 := SB.rowTake h7 k (by omega)
  have h9 := h8.perm (L' := Box p (fsC (.slice A0 k c0) z s.room) 72 :: Row (Kd.int .u64) 35 (.slice A0 k c0) (s.v.take k) :: Sep (rowsOf z) :: Row (Kd.int .u64) 35 (.slice A3 xs.length c3) xs :: L) ((List.Perm.swap _ _ _).trans (((List.Perm.swap _ _ _).cons _).cons _))
  have h10 := SB.close_ (s := { s with v := s.v.take k }) hz ⟨hk.room0, hk.room, hk.len, hk.base⟩ h9
  exact h10.swap
theorem frPopNo {w0 w : World} {L : List As} {p : Nat} {s : FS} (hS : SB w0 w (FO p s :: L)) (hl : s.v.length ≤ 1000000) (hn : ¬ hasN s 1) :
    Calls Try.prog 22 #[.pointer (some ⟨p, 0, none⟩)] w fun e w' => e = .returned (.tuple #[.int .u64 0, .bool false]) ∧ SB w0 w' (FO p s :: L) := by
  have hc := frHasS hS hl 1
  rw [decide_eq_false hn] at hc
  have HS := Aside0.mk hS
  have HH := Aside0.mk hc
  clear hS hc hn
  go_enter Try.func22, Try.ntmps22
  go_wp2_with (go_at_call 32; (with_reducible refine (HH.out).mono ?_); rintro e w1 ⟨rfl, ⟨nd, rfl⟩⟩)
  go_ret2
  exact ⟨rfl, HS.out.drewN _⟩
theorem frPopNil (w : World) : Calls Try.prog 22 #[.pointer none] w fun e w' => e = .returned (.tuple #[.int .u64 0, .bool false]) ∧ Drawn0 w w' := by
  go_enter Try.func22, Try.ntmps22
  go_wp2_with (go_at_call 32; (with_reducible refine (frHasNil 1 _).mono ?_); rintro e w1 ⟨rfl, ⟨nd, rfl⟩⟩)
  go_ret2
  exact ⟨rfl, drawn_n _ _⟩
theorem frPopOk {w0 w : World} {L : List As} {p : Nat} {s : FS} (hS : SB w0 w (FO p s :: L)) (hl : s.v.length ≤ 1000000) (hn : hasN s 1) :
    Calls Try.prog 22 #[.pointer (some ⟨p, 0, none⟩)] w fun e w' => e = .returned (.tuple #[.int .u64 (s.v.getD (s.v.length - 1) 0), .bool true]) ∧ SB w0 w' (FO p { s with v := s.v.take (s.v.length - 1) } :: L) := by
  have hc := frHasS hS hl 1
  rw [decide_eq_true hn] at hc
  have HH := Aside0.mk hc
  obtain ⟨v, z, hz, hk, h1⟩ := hS.open_
  have hnl : 1 ≤ s.v.length := by have := (baseOf_ok hk).1; have := hn.2; omega
  obtain ⟨k, hkk⟩ : ∃ k, s.v.length - 1 = k := ⟨_, rfl⟩
  rw [hkk]
  have hw : IntKind.i64.wrap ((s.v.length : Int) - 1) = (k : Int) := by rw [IntKind.wrap_i64]; omega
  have hb := h1.blk
  obtain ⟨A0, c0, rfl, hc0, hC0⟩ := h1.swap.reads
  have hcell : w.cell? ⟨p, 0, none⟩ = some (.slice A0 s.v.length c0) := fsC_b _ _ _ hb 0 (by omega)
  have hfro : w.frozen? ⟨p, 0, none⟩ = false := blk_frozen hb 0
  have hcut := cut22 A0 s.v.length c0 k (by omega) hc0
  obtain ⟨ad, rfl, hcell2⟩ := row_cell hC0 (i := k) (by omega)
  have hgd : s.v.getD k 0 = s.v[k] := by rw [List.getD_eq_getElem?_getD, List.getElem?_eq_getElem]; rfl
  rw [hgd]
  obtain ⟨x, hx⟩ : ∃ x, s.v[k] = x := ⟨_, rfl⟩
  rw [hx] at hcell2 ⊢
  have d1 : decide ((s.v.length : Int) ≤ (k : Int)) = false := decide_eq_false (by omega)
  have d2 : decide (s.v.length ≤ k) = false := decide_eq_false (by omega)
  have d3 : k < s.v.length := by omega
  have HS := Aside0.mk h1
  clear h1 hb hS hC0 hn hc hgd hx
  go_enter Try.func22, Try.ntmps22
  go_wp2_with (go_at_call 32; (with_reducible refine (HH.out).mono ?_); rintro e w1 ⟨rfl, ⟨nd, rfl⟩⟩)
  go_ret2
  refine ⟨rfl, ?_⟩
  have h6 := (HS.out.drewN nd).set1 0 (.slice (some ad) k c0)
  rw [fsC_set0] at h6
  have h8 := SB.rowTake h6.swap k (by omega)
  exact SB.close_ (s := { s with v := s.v.take k }) hz ⟨hk.room0, hk.room, hk.len, hk.base⟩ h8.swap
end Go.Proofs.Ytbbgkelcdooabaa.G
