/- The document's stacks: New, Push, Take, Pop, copied. -/
import Derived.Deep.DeepMust
import Derived.Test.YtbbgkelcdooabaaFraS
namespace Go.Proofs.Ytbbgkelcdooabaa.G
open Go.RowKit Go.Proofs.YtbbgkelcdooabaaW.PrintWords Go.Proofs.YtbbgkelcdooabaaW.PrintLast Go.Proofs.YtbbgkelcdooabaaW.PrintMore
attribute [local go_sem] max2_int min2_int max_two min_two max_three min_three max_four min_four   -- for this text's walks alone
set_option linter.unusedVariables false
set_option linter.unusedSimpArgs false
theorem xNew {w0 w : World} {L : List As} (hS : SB w0 w L) (d : Int) :
    Calls Try.prog 25 #[.int .i64 d] w fun e w' => e = .returned (.pointer (some ⟨w.heap.size, 0, none⟩)) ∧ SB w0 w' (XO w.heap.size ⟨[], [], max 0 (min d 64)⟩ :: L) := by
  have key : SB w0 (w.alloc (.cells #[.slice none 0 0, .slice none 0 0, .int .i64 (max 0 (min d 64))] 56)) (XO w.heap.size ⟨[], [], max 0 (min d 64)⟩ :: L) := by
    have h1 := hS.box #[.slice none 0 0, .slice none 0 0, .int .i64 (max 0 (min d 64))] 56
    have h2 := SB.row (d := Kd.int .u64) (e := 35) (v := .slice none 0 0) (xs := []) (ok := fun _ => True) h1 (Below.refl _ _) (Kd.R_nil _ _ _ _ _)
    have h3 := SB.row (d := Kd.raw 4) (e := 61) (v := .slice none 0 0) (xs := []) (ok := fun _ => True) h2 (Below.refl _ _) (Kd.R_nil _ _ _ _ _)
    exact SB.xclose (s := ⟨[], [], max 0 (min d 64)⟩) (z := []) rfl ((SB.sep0.2 h3).pick4 [3, 2, 1, 0])
  have HK := Aside0.mk key
  clear key hS
  go_enter Try.func25, Try.ntmps25
  go_wp2
  all_goals go_ret
  all_goals refine ⟨rfl, ?_⟩
  all_goals have hk := HK.out
  · rw [show max 0 (min d 64) = (64 : Int) by omega] at hk ⊢
    exact hk
  · rw [show max 0 (min d 64) = d by omega] at hk ⊢
    exact hk
  · rw [show max 0 (min d 64) = (0 : Int) by omega] at hk ⊢
    exact hk
theorem xPush {w0 w : World} {L : List As} {g : Nat} {s : FS} (hS : SB w0 w (XO g s :: L)) (A : Option Addr) (c : Nat) (l : List Int) (hC : Kd.C (Kd.int .u64) w A l.length l) (hc : l.length ≤ c) (hl : s.v.length + l.length ≤ 1000000) :
    Calls Try.prog 42 #[.pointer (some ⟨g, 0, none⟩), .slice A l.length c] w fun e w' => e = .returned (.tuple #[]) ∧ SB w0 w' (XO g { s with v := s.v ++ l } :: L) := by
  obtain ⟨v, vf, z, hz, h1⟩ := hS.xopen
  have hb := h1.blk
  have h2 := h1.swap
  obtain ⟨A0, c0, rfl, hc0, _⟩ := h2.reads
  have hcell : w.cell? ⟨g, 0, none⟩ = some (.slice A0 s.v.length c0) := blk_cell hb 0
  have HS := Aside0.mk h2
  have HC := Aside0.mk hC
  clear h1 h2 hb hS hC
  go_enter Try.func42, Try.ntmps42
  go_wp2_with ((with_reducible refine gate_builtin (b := .append) (xs := #[.tmp 8, .tmp 9]) rfl ?_); at_builtin; go_must ((refine SB.appRows (ys := l) HS.out rfl (.tmp 8) (.tmp 9) 22 (.int .u64 0) 8 rfl Try.underlying22 info35 rfl (by decide) (by decide) rfl rfl (fun _ _ h => h) HC.out (by omega) ?_); intro v5 w5 hs5; obtain ⟨A5, c5, rfl, _, _⟩ := hs5.reads; have hb5 := hs5.swap.blk; have hc5 : w5.cell? ⟨g, 0, none⟩ = some (.slice A0 s.v.length c0) := blk_cell hb5 0; have hf5 := blk_frozen hb5 0; have HS5 := Aside0.mk hs5; clear hs5 hb5))
  go_end0
  have h6 := (HS5.out.swap).set1 0 (.slice A5 (s.v ++ l).length c5)
  have h7 := SB.xclose (s := { s with v := s.v ++ l }) hz h6
  simp only [List.length_append] at h7
  exact ⟨rfl, h7⟩
theorem xTakeNo {w0 w : World} {L : List As} {g : Nat} {s : FS} {B : Nat} (hS : SB w0 w (XO g s :: L)) (hI : Inv s B) (hB : B ≤ 100000) (hF : s.fr.length ≤ 64) (n : Int) (hn : ¬ hasN s n) (hn2 : -9223372036854775808 ≤ n ∧ n < 9223372036854775808) :
    Calls Try.prog 44 #[.pointer (some ⟨g, 0, none⟩), .int .i64 n] w fun e w' => e = .returned (.tuple #[.slice none 0 0, .bool false]) ∧ SB w0 w' (XO g s :: L) := by
  have q52 := Aside0.mk (xBase hS (by omega))
  obtain ⟨A, c, Af, cf, s0, s1, s2, hc, hcf, hC⟩ := xo_cells hS
  have hbase := hI.base
  obtain ⟨b, hb⟩ : ∃ b, baseOf s.fr = b := ⟨_, rfl⟩
  obtain ⟨m, hm⟩ : ∃ m, s.v.length = m := ⟨_, rfl⟩
  unfold hasN at hn
  have hvl := hI.vl
  rw [hb] at q52 hbase hn
  rw [hm] at s0 hc hbase hn hvl
  obtain ⟨d, hd⟩ : ∃ d, (m : Int) - b = d := ⟨_, rfl⟩
  have hw : IntKind.i64.wrap ((m : Int) - b) = d := by rw [IntKind.wrap_i64]; omega
  have HS := Aside0.mk hS
  by_cases h0 : n < 0
  · have d0 : decide (n < 0) = true := decide_eq_true h0
    clear hI hC s1 s2 hS hcf hb hm
    go_enter Try.func44, Try.ntmps44
    go_wp2
    go_quiet ((go_at_call 52; with_reducible exact Calls.quiet_of (q52.out _)))
    go_wp2
    go_ret2
    exact ⟨rfl, HS.out.drewN _⟩
  · have d0 : decide (n < 0) = false := decide_eq_false h0
    have d1 : decide (d < n) = true := decide_eq_true (by omega)
    clear hI hC s1 s2 hS hcf hb hm hd
    go_enter Try.func44, Try.ntmps44
    go_wp2
    go_quiet ((go_at_call 52; with_reducible exact Calls.quiet_of (q52.out _)))
    go_wp2
    go_ret2
    exact ⟨rfl, HS.out.drewN _⟩
theorem xTakeOk {w0 w : World} {L : List As} {g : Nat} {s : FS} {B : Nat} (hS : SB w0 w (XO g s :: L)) (hI : Inv s B) (hB : B ≤ 100000) (hF : s.fr.length ≤ 64) (n : Nat) (hn : hasN s n) :
    Calls Try.prog 44 #[.pointer (some ⟨g, 0, none⟩), .int .i64 (n : Int)] w fun e w' => ∃ v, e = .returned (.tuple #[v, .bool true]) ∧ SB w0 w' (Row (Kd.int .u64) 35 v (s.v.drop (s.v.length - n)) :: XO g { s with v := s.v.take (s.v.length - n) } :: L) := by
  have q52 := Aside0.mk (xBase hS (by omega))
  have hbase := hI.base
  have hvl := hI.vl
  have hnl : n ≤ s.v.length := by have := hn.2; omega
  obtain ⟨v, vf, z, hz, h1⟩ := hS.xopen
  obtain ⟨Af, cf, rfl, _, _⟩ := (h1.pick3 [2]).reads
  obtain ⟨k, hkk⟩ : ∃ k, s.v.length - n = k := ⟨_, rfl⟩
  rw [hkk]
  have hw2 : IntKind.i64.wrap ((s.v.length : Int) - (n : Int)) = (k : Int) := by rw [IntKind.wrap_i64]; omega
  have hb := h1.blk
  obtain ⟨A0, c0, rfl, hc0, hC0⟩ := h1.swap.reads
  have hcell : w.cell? ⟨g, 0, none⟩ = some (.slice A0 s.v.length c0) := blk_cell hb 0
  have hcut := cut22 A0 s.v.length c0 k (by omega) hc0
  have hlow := low22 A0 s.v.length c0 k (by omega) hc0
  have HS := Aside0.mk h1
  have HC := Aside0.mk (Kd.C_drop hC0 (m := k) (by omega) hc0)
  have hdl : (s.v.drop k).length = s.v.length - k := by simp
  obtain ⟨Al, hAl⟩ : ∃ Al, (if c0 = k then A0 else A0.map fun x => x.add (k * 1)) = Al := ⟨_, rfl⟩
  rw [hAl, ← hdl] at hlow
  have HC := Aside0.mk (show Kd.C (Kd.int .u64) w Al (s.v.drop k).length (s.v.drop k) from hAl ▸ HC.out)
  have hdc : (s.v.drop k).length ≤ c0 - k := by omega
  have hdm : (s.v.drop k).length ≤ 1000000 := by omega
  obtain ⟨xs, hxs⟩ : ∃ xs, s.v.drop k = xs := ⟨_, rfl⟩
  rw [hxs] at hlow HC hdc hdm ⊢
  obtain ⟨cl, hcl⟩ : ∃ cl, c0 - k = cl := ⟨_, rfl⟩
  rw [hcl] at hlow hdc
  obtain ⟨b, hbo⟩ : ∃ b, baseOf s.fr = b := ⟨_, rfl⟩
  have hn3 := hn.2
  rw [hbo] at q52 hbase hn3
  obtain ⟨d, hd⟩ : ∃ d, (s.v.length : Int) - b = d := ⟨_, rfl⟩
  have hw : IntKind.i64.wrap ((s.v.length : Int) - b) = d := by rw [IntKind.wrap_i64]; omega
  have d0 : decide ((n : Int) < 0) = false := decide_eq_false (by omega)
  have d1 : decide (d < (n : Int)) = false := decide_eq_false (by omega)
  clear h1 hb hS hC0 hn hdl hAl hxs hcl hI hd hn3 hbo
  go_enter Try.func44, Try.ntmps44
  go_wp2
  go_quiet ((go_at_call 52; with_reducible exact Calls.quiet_of (q52.out _)))
  have HSq := Aside0.mk (HS.out.drewN nq)
  have HCq := Aside0.mk (Kd.C_below HC.out (pw_below_drewN (Below.refl _ _) nq))
  obtain ⟨W, hW⟩ : ∃ W, w.drewN nq = W := ⟨_, rfl⟩
  have hcell2 : W.cell? ⟨g, 0, none⟩ = some (.slice A0 s.v.length c0) := by rw [← hW]; exact hcell
  rw [hW] at HSq HCq ⊢
  clear HS HC hW hcell
  go_wp2_with (first
    | ((with_reducible refine gate_dst (N := 29) rfl ?_); go_must (refine Kd.R_lit (Kd.int .u64) (w0 := W) W.heap.size 35 rfl (N := 29) rfl (xs := ([] : List Int)) (inner := []) (ok := fun _ => True) (okp := fun _ => True) (by first | (go_simp; done) | (go_simp; rfl)) (Reps.none _ _) (fun _ hk => hk) trivial (Below.refl _ _) (Nat.le_refl _) (by simp) ?_; intro v5 w5 ho5 hb hg_ hnew_; have hcell5 := pw_cell_below hb hcell2; have HC5 := Aside0.mk (Kd.C_below HCq.out hb); have HS5 := Aside0.mk (HSq.out.row hb ho5); clear ho5 hb hg_ hnew_))
    | ((with_reducible refine gate_builtin (b := .append) (xs := #[.tmp 29, .tmp 35]) rfl ?_); at_builtin; go_must (refine SB.appRows (ys := xs) HS5.out rfl (.tmp 29) (.tmp 35) 22 (.int .u64 0) 8 rfl Try.underlying22 info35 rfl (by decide) (by decide) rfl rfl (fun _ _ h => h) HC5.out (by simp; omega) ?_; intro v6 w6 hs6; obtain ⟨A6, c6, rfl, _, _⟩ := hs6.reads; rw [List.nil_append] at hs6 ⊢; have hb6 := hs6.swap.blk; have hc6 : w6.cell? ⟨g, 0, none⟩ = some (.slice A0 s.v.length c0) := blk_cell hb6 0; have hf6 := blk_frozen hb6 0; have HS6 := Aside0.mk hs6; clear hs6 hb6)))
  go_ret2
  refine ⟨_, rfl, ?_⟩
  have h6 := (HS6.out.swap).set1 0 (.slice A0 k c0)
  have h8 := SB.rowTake (h6.pick3 [2, 0, 1]) k (by omega)
  exact (SB.xclose (s := { s with v := s.v.take k }) hz (h8.pick5 [1, 0, 3, 4, 2])).swap
theorem xTake {w0 w : World} {L : List As} {g : Nat} {s : FS} {B : Nat} (hS : SB w0 w (XO g s :: L)) (hI : Inv s B) (hB : B ≤ 100000) (hF : s.fr.length ≤ 64) (n : Int) (hn2 : -9223372036854775808 ≤ n ∧ n < 9223372036854775808) {s' : FS} {l : List Int} {ok : Bool} (h : fTake s n = (s', l, ok)) :
    Calls Try.prog 44 #[.pointer (some ⟨g, 0, none⟩), .int .i64 n] w fun e w' => ∃ v, e = .returned (.tuple #[v, .bool ok]) ∧ SB w0 w' (Row (Kd.int .u64) 35 v l :: XO g s' :: L) := by
  unfold fTake at h
  split at h
  · rename_i hn
    obtain ⟨k, rfl⟩ := Int.eq_ofNat_of_zero_le hn.1
    simp only [Prod.mk.injEq, Int.toNat_natCast] at h
    obtain ⟨rfl, rfl, rfl⟩ := h
    exact xTakeOk hS hI hB hF k hn
  · rename_i hn
    simp only [Prod.mk.injEq] at h
    obtain ⟨rfl, rfl, rfl⟩ := h
    exact (xTakeNo hS hI hB hF n hn hn2).mono (fun e w' h => ⟨_, h.1, SB.row h.2 (Below.refl _ _) (Kd.R_nil _ _ _ _ (fun _ => True))⟩)
theorem xPop {w0 w : World} {L : List As} {g : Nat} {s : FS} {B : Nat} (hS : SB w0 w (XO g s :: L)) (hI : Inv s B) (hB : B ≤ 100000) (hF : s.fr.length ≤ 64) {s' : FS} {x : Int} {ok : Bool} (h : fPop s = (s', x, ok)) :
    Calls Try.prog 43 #[.pointer (some ⟨g, 0, none⟩)] w fun e w' => e = .returned (.tuple #[.int .u64 x, .bool ok]) ∧ SB w0 w' (XO g s' :: L) := by
  unfold fPop at h
  split at h
  · rename_i hn
    simp only [Prod.mk.injEq] at h
    obtain ⟨rfl, rfl, rfl⟩ := h
    have hb := hI.base
    have hn2 := hn.2
    have hlen : (s.v.drop (s.v.length - 1)).length = 1 := by rw [List.length_drop]; omega
    have hxs : s.v.drop (s.v.length - 1) = [s.v.getD (s.v.length - 1) 0] := by
      rw [List.drop_eq_getElem_cons (by omega), List.drop_of_length_le (by omega), List.getD_eq_getElem?_getD, List.getElem?_eq_getElem (by omega)]
      rfl
    have HT := Aside0.mk (show Calls Try.prog 44 #[.pointer (some ⟨g, 0, none⟩), .int .i64 1] w _ from xTakeOk hS hI hB hF 1 hn)
    rw [hxs] at HT
    obtain ⟨x, hx⟩ : ∃ x, s.v.getD (s.v.length - 1) 0 = x := ⟨_, rfl⟩
    rw [hx] at HT ⊢
    clear hxs hlen hn hn2 hb hx hI hS
    go_enter Try.func43, Try.ntmps43
    go_wp2_with (go_at_call 44; go_must ((with_reducible refine (HT.out).mono ?_); rintro e w3 ⟨v3, rfl, hs⟩; obtain ⟨g3, c3, rfl, hq, _, _⟩ := hs.rowAt 0 (by simp); have HS3 := Aside0.mk hs; clear hs))
    go_ret2
    exact ⟨rfl, HS3.out.drop⟩
  · rename_i hn
    simp only [Prod.mk.injEq] at h
    obtain ⟨rfl, rfl, rfl⟩ := h
    have HT := Aside0.mk (xTakeNo hS hI hB hF 1 hn (by decide))
    clear hn hI hS
    go_enter Try.func43, Try.ntmps43
    go_wp2_with (go_at_call 44; go_must ((with_reducible refine (HT.out).mono ?_); rintro e w3 ⟨rfl, hs⟩; have HS3 := Aside0.mk hs; clear hs))
    go_ret2
    exact ⟨rfl, HS3.out⟩
theorem xCopied {w0 w : World} {L : List As} (hS : SB w0 w L) (f pc b : Int) (A : Option Addr) (c : Nat) (l : List Int) (hC : Kd.C (Kd.int .u64) w A l.length l) (hc : l.length ≤ c) (hl : l.length ≤ 1000000) :
    Calls Try.prog 51 #[.agg #[.int .i64 f, .int .i64 pc, .slice A l.length c, .int .i64 b]] w fun e w' => ∃ v, e = .returned (.agg #[.int .i64 f, .int .i64 pc, v, .int .i64 b]) ∧ SB w0 w' (Row (Kd.int .u64) 35 v l :: L) ∧ Below w.heap.size w w' := by
  refine (avocetref17_copied.calls f pc A c l b f pc l b w hC hc (by
    unfold avocetref17_copied.f
    rw [Option.bind_some, if_pos (by simp; omega)]
    rfl)).mono ?_
  rintro e w' ⟨v, rfl, hR, hb⟩
  exact ⟨v, rfl, hS.row hb hR, hb⟩
end Go.Proofs.Ytbbgkelcdooabaa.G
